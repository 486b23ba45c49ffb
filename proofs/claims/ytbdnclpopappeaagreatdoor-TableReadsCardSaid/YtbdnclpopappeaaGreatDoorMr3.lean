/- Lemmas and contracts of functions, joined. -/
import Derived.Test.YtbdnclpopappeaaGreatDoorMr2
import Derived.Test.YtbdnclpopappeaaGreatDoorCards
import Derived.Test.YtbdnclpopappeaaGreatDoorTie
import Derived.OpenShut
import Derived.Deep.DeepHandedRow
import Derived.Deep.CondSized
import Derived.JoinedCond
import Derived.Test.YtbdnclpopappeaaGreatDoorRows
import Derived.KernelRfl
set_option linter.unusedSimpArgs false
set_option linter.unusedVariables false
set_option linter.unusedSectionVars false
namespace Go.Tan
open Go.RowKit
def oE (user:ByteArray) (seq:BitVec 64) (e:Ent):Bool := !dQ e ⟨user,seq,0,ByteArray.empty⟩
theorem aNa {user:ByteArray} {seq:BitVec 64} {e:Ent}:((!le e.user user)||((e.user.toList == user.toList)&&decide ((e.seq.toNat:Int)≤(seq.toNat:Int))))=oE user seq e:=by
 unfold oE
 rw [← aDl (x:=e) (y:=⟨user,seq,0,ByteArray.empty⟩)]
def mU (user:ByteArray) (p:RowT×Sh):Bool := !lt (aN p.1.bound) user
theorem aGj {user:ByteArray}:∀ (l:List (RowT×Sh)),gU (mU user) l=if jK user (l.map (·.1))<l.length then (jK user (l.map (·.1)):Int) else -1
 | []=>rfl
 | p :: l=>by
  have ih:=aGj (user:=user) l
  unfold gU at ih ⊢
  rw [List.findIdx?_cons]
  unfold jK
  rw [List.map_cons]
  by_cases h:lt (aN p.1.bound) user=true
  ·have hn:mU user p=false:=by unfold mU; rw [h]; rfl
   rw [hn]
   simp only [h,if_true,Bool.false_eq_true,if_false,List.length_cons]
   cases hf:l.findIdx? (mU user) with
   | none =>
    rw [hf] at ih
    simp only at ih
    simp only [Option.map_none]
    split at ih
    ·have:=Int.natCast_nonneg (jK user (l.map (·.1))); omega
    ·rename_i q; rw [if_neg (by omega)]
   | some i =>
    rw [hf] at ih
    simp only at ih
    simp only [Option.map_some]
    split at ih
    ·rw [if_pos (by omega)]; omega
    ·have:=Int.natCast_nonneg i; omega
  ·have hn:mU user p=true:=by unfold mU; simp only [Bool.not_eq_true] at h; rw [h]; rfl
   rw [hn]
   simp [h]
theorem aC0 {α:Type} {p:α→Bool}:∀ (l:List α),(gU p l<0∧l.find? p=none)∨∃ x,0≤gU p l∧l[(gU p l).toNat]? = some x∧l.find? p=some x
 | []=>.inl ⟨by show (-1:Int)<0; decide,rfl⟩
 | a :: l=>by
  unfold gU
  rw [List.findIdx?_cons,List.find?_cons]
  cases h:p a with
  | true=>exact .inr ⟨a,Int.le_refl _,rfl,rfl⟩
  | false =>
   have ih:=aC0 (p:=p) l
   unfold gU at ih
   simp only [Bool.false_eq_true,if_false]
   cases hf:l.findIdx? p with
   | none =>
    rw [hf] at ih
    rcases ih with ⟨_,h2⟩ | ⟨x,h1,_⟩
    ·exact .inl ⟨by simp,h2⟩
    simp at h1
   | some i =>
    rw [hf] at ih
    rcases ih with ⟨h1,_⟩ | ⟨x,h1,h2,h3⟩
    ·simp only at h1; omega
    refine .inr ⟨x,?_,?_,h3⟩
    ·simp only [Option.map_some]; exact Int.natCast_nonneg _
    simp only [Option.map_some,Int.toNat_natCast] at h2 ⊢
    rw [List.getElem?_cons_succ]; exact h2
theorem aIV {n:Nat} {acc rows:List RowT} {rest r:List Y} (h:cS (n+1) acc rest r=some rows):∃ bd size d r',cS n (acc++[⟨bd,rest.take size,d⟩]) (rest.drop size) r'=some rows:=by
 have key:∀ {α:Type} {a:α} {last:Bool} {f:List Y→Nat→Dg→List Y→Option α} {r:List Y},qI last f r=some a→∃ bd size d r',f bd size d r'=some a:=by
  intro α a last f r h
  have h3:∀ {bd:List Y} {r:List Y},(cT fun size=>iL fV 32 fun xs=>f bd size (fun i=>xs.getD i 0)) r=some a→∃ bd size d r',f bd size d r'=some a:=by
   intro bd r h
   obtain ⟨size,r2,_,_,h⟩:=oG h
   have h4:∀ (m:Nat) (K:List Y→List Y→Option α) (r:List Y),iL fV m K r=some a→∃ xs r',K xs r'=some a:=by
    intro m
    induction m with
    | zero=>intro K r h; exact ⟨[],r,h⟩
    | succ m ih =>
     intro K r h
     obtain ⟨x,r',_,h⟩:=aMS h
     obtain ⟨xs,r2,h⟩:=ih _ _ h
     exact ⟨_,_,h⟩
   obtain ⟨xs,r3,h⟩:=h4 _ _ _ h
   exact ⟨_,_,_,_,h⟩
  unfold qI at h
  cases last with
  | true=>exact h3 h
  | false =>
   simp only [Bool.false_eq_true,if_false] at h
   obtain ⟨bd,r',_,_,h⟩:=aRG h
   exact h3 h
 obtain ⟨bd,size,d,r',h2⟩:=key (aDy h)
 split at h2
 ·exact ⟨bd,size,d,r',h2⟩
 ·cases h2
theorem aIW:∀ {n:Nat} {acc rows:List RowT} {rest r:List Y},cS n acc rest r=some rows→rows.length=acc.length+n
 | 0,acc,rows,rest,r,h=>by rw [(aDx h).2.2]; rfl
 | n+1,acc,rows,rest,r,h=>by
  obtain ⟨bd,size,d,r',h2⟩:=aIV h
  have:=aIW h2
  rw [this,List.length_append]; simp; omega
theorem aDw:∀ {n:Nat} {acc rows:List RowT} {rest r:List Y},cS n acc rest r=some rows→(rows.map (·.bytes)).flatten=(acc.map (·.bytes)).flatten++rest
 | 0,acc,rows,rest,r,h=>by obtain ⟨_,rfl,rfl⟩:=aDx h; simp
 | n+1,acc,rows,rest,r,h=>by
  obtain ⟨bd,size,d,r',h2⟩:=aIV h
  rw [aDw h2,List.map_append,List.flatten_append,List.append_assoc]
  simp
theorem aCT {root:Nat→Y} {m:Meta} {b:List Y} {rows:List RowT} {ix:List Y} (h:dD root m b=some (rows,ix)):2≤rows.length:=by
 obtain ⟨y,_,hp⟩:=(aAi h).opn
 obtain ⟨n,r,_,_,hp⟩:=oG hp
 split at hp
 ·have:=aIW hp
  simp at this; omega
 ·cases hp
theorem aNP {root:Nat→Y} {m:Meta} {b:List Y} {user:ByteArray} {seq:BitVec 64} {R:Option Ent} (h:vY root m b user seq=some R) :
  ∃ rows ix f,dD root m b=some (rows,ix)∧dS root (bH m) (rows.getD (rows.length-1) gG) 1=some f∧(nI f user=false→R=none) ∧
   (nI f user=true→lG root (bH m) rows user seq (rows.length-1-jK user (rows.take (rows.length-1))) (jK user (rows.take (rows.length-1)))=some R):=by
 unfold vY at h
 cases hb:dD root m b with
 | none=>rw [hb] at h; cases h
 | some p =>
  obtain ⟨rows,ix⟩:=p
  rw [hb,Option.bind_some] at h
  simp only at h
  cases hf:dS root (bH m) (rows.getD (rows.length-1) gG) 1 with
  | none=>rw [hf] at h; cases h
  | some f =>
   rw [hf,Option.bind_some] at h
   refine ⟨rows,ix,f,rfl,hf,fun q=>?_,fun q=>?_⟩
   ·rw [if_pos q] at h; exact (Option.some.inj h).symm
   rw [if_neg (by rw [q]; simp)] at h; exact h
theorem aNQ {root:Nat→Y} {hd:Hd} {rows:List RowT} {user:ByteArray} {seq:BitVec 64} {R:Option Ent} {n j:Nat} (hj:j<n) (h:lG root hd rows user seq (n-j) j=some R) :
  ∃ l,hY root hd rows j=some l∧(l.find? (oE user seq)=none→lG root hd rows user seq (n-(j+1)) (j+1)=some R)∧(∀ e,l.find? (oE user seq)=some e→R=if e.user=user then some e else none):=by
 obtain ⟨m,hm⟩ : ∃ m,n-j=m+1:=⟨n-j-1,by omega⟩
 rw [hm,lG] at h
 cases hl:hY root hd rows j with
 | none=>rw [hl] at h; cases h
 | some l =>
  rw [hl,Option.bind_some] at h
  refine ⟨l,rfl,fun q=>?_,fun e q=>?_⟩
  ·have e1:jJ l user seq=none:=q
   rw [e1] at h
   rw [show n-(j+1)=m by omega]; exact h
  have e1:jJ l user seq=some e:=q
  rw [e1] at h
  simp only at h
  split at h
  ·rename_i he; rw [if_pos he]; exact (Option.some.inj h).symm
  rename_i he; rw [if_neg he]; exact (Option.some.inj h).symm
theorem aHc (every:Nat) (l:List Ent):∀ k,k≤(dX every l k).length
 | 0=>Nat.zero_le _
 | k+1=>by
  have:=aHc every l k
  have h1:=uL (iQ (oZ l k) (bZ (l.getD k Ent.zero)) (k%every == 0))
  unfold dX nZ
  simp only [List.length_append]; omega
theorem aDj {y:List Y} {l:List Ent} (h:gM y=(l,0)):l.length≤y.length:=by
 unfold gM at h
 split at h
 ·rename_i l' hp
  simp only [Prod.mk.injEq,and_true] at h
  subst h
  obtain ⟨a,r,_,_,hp⟩:=oG hp
  obtain ⟨n,r2,_,_,hp⟩:=oG hp
  split at hp
  ·cases he:gF n [] [] r2 with
   | none=>rw [he] at hp; cases hp
   | some l2 =>
    rw [he,Option.bind_some] at hp
    split at hp
    ·rename_i hb
     simp only [Option.some.injEq] at hp
     subst hp
     have hlen:y=fU (a:Int).toNat l2:=by
      unfold fP at hb
      split at hb
      ·simp only [Prod.mk.injEq] at hb; exact absurd hb.2 (by decide)
      ·split at hb
       ·simp only [Prod.mk.injEq] at hb; exact absurd hb.2 (by decide)
       ·simp only [Prod.mk.injEq] at hb; exact hb.1.symm
     have:=aHc (a:Int).toNat l2 l2.length
     rw [hlen]; unfold fU
     rw [List.length_append,List.length_append]; omega
    ·cases hp
  ·cases hp
 ·simp only [Prod.mk.injEq] at h; exact absurd h.2 (by decide)
theorem aNT {root:Nat→Y} {hd:Hd} {ps L:List (RowT×Sh)} {user:ByteArray} {seq:BitVec 64} {R:Option Ent} (hpl:1≤ps.length) (eL:L=ps.take (ps.length-1))
  (h:lG root hd (ps.map (·.1)) user seq (ps.length-1-jK user ((ps.map (·.1)).take (ps.length-1))) (jK user ((ps.map (·.1)).take (ps.length-1)))=some R) :
  (gU (mU user) L = -1∧R=none)∨(0≤gU (mU user) L∧gU (mU user) L≤((ps.length-1:Nat):Int)∧lG root hd (ps.map (·.1)) user seq (ps.length-1-(gU (mU user) L).toNat) (gU (mU user) L).toNat=some R):=by
 have e1:(ps.map (·.1)).take (ps.length-1)=L.map (·.1):=by rw [eL,List.map_take]
 have e2:L.length=ps.length-1:=by rw [eL,List.length_take]; omega
 rw [e1] at h
 have hi:=aGj (user:=user) L
 have hle:=aC3 (user:=user) (L.map (·.1))
 rw [List.length_map] at hle
 split at hi
 ·rename_i q
  refine .inr ⟨by omega,by omega,?_⟩
  rw [hi,Int.toNat_natCast]; exact h
 rename_i q
 refine .inl ⟨hi,?_⟩
 rw [show ps.length-1-jK user (L.map (·.1))=0 by omega,lG] at h
 exact (Option.some.inj h).symm
theorem aNS {user:ByteArray} {seq:BitVec 64} {l:List Ent} (h:gU (oE user seq) l<0):l.find? (oE user seq)=none:=by
 rcases aC0 (p:=oE user seq) l with ⟨_,h2⟩ | ⟨x,h1,_⟩
 ·exact h2
 ·omega
theorem aNR {root:Nat→Y} {hd:Hd} {rows:List RowT} {user:ByteArray} {seq:BitVec 64} {R:Option Ent} {k:Int} {n:Nat} (hI:(k = -1∧R=none)∨(0≤k∧k≤(n:Int)∧lG root hd rows user seq (n-k.toNat) k.toNat=some R)) (hk:k<0∨(n:Int)≤k):R=none:=by
 rcases hI with ⟨_,h⟩ | ⟨h1,h2,h3⟩
 ·exact h
 ·rw [show n-k.toNat=0 by omega,lG] at h3
  exact (Option.some.inj h3).symm
theorem aLY {root:Nat→Y} {m:Meta} {b:List Y} {l:List Ent} (h:kB root m b=some l) :
  ∃ rows ix f,dD root m b=some (rows,ix)∧dS root (bH m) (rows.getD (rows.length-1) gG) 1=some f∧kY root (bH m) rows (rows.length-1) 0 []=some l∧(cZ l=true∧(l.length:Int)=m.count∧(l=[]∨jR l=m.min∧fY l=m.max)):=by
 unfold kB at h
 cases hb:dD root m b with
 | none=>rw [hb] at h; cases h
 | some p =>
  obtain ⟨rows,ix⟩:=p
  rw [hb,Option.bind_some] at h
  simp only at h
  cases hf:dS root (bH m) (rows.getD (rows.length-1) gG) 1 with
  | none=>rw [hf] at h; cases h
  | some f =>
   rw [hf,Option.bind_some] at h
   cases hg:kY root (bH m) rows (rows.length-1) 0 [] with
   | none=>rw [hg] at h; cases h
   | some l2 =>
    rw [hg,Option.bind_some] at h
    split at h
    ·rename_i hq
     obtain rfl:=Option.some.inj h
     exact ⟨rows,ix,f,rfl,hf,hg,hq⟩
    ·cases h
theorem aGT {l:List Ent}:∀ u∈l.flatMap Ent.cells,u.oneCell'=true:=fun u hu=>by
 obtain ⟨e,_,he⟩:=List.mem_flatMap.1 hu
 exact Ent.one e u he
theorem aLT {m:Meta} {l:List Ent} (h:cZ l=true∧(l.length:Int)=m.count∧(l=[]∨jR l=m.min∧fY l=m.max)) :
  (cZ l&&((l.length:Int) == m.count)&&(((l.length:Int) == 0)||(((l.getD 0 Ent.zero).user.toList == m.min.toList)&&((l.getD (l.length-1) Ent.zero).user.toList == m.max.toList))))=true:=by
 obtain ⟨h1,h2,h3⟩:=h
 rw [h1,h2]
 rcases h3 with rfl | ⟨h3,h4⟩
 ·simp at h2 ⊢; exact .inl h2.symm
 ·unfold jR at h3; unfold fY at h4
  rw [h3,h4]; simp
def aGQ:List CK:=[.str,.int .u64,.int .u8,.str]
theorem aAy {e:Ent} (h1:e.user.size≤1000000) (h2:e.value.size≤1000000):Conf aGQ e.cells:=by
 refine .cons (.str ?_) (Conf.u64 (Conf.u8 (.cons (.str ?_) .nil)))
 all_goals (simp only [maxLen]; omega)
theorem aMX {a b:Ent} (h:a.cells=b.cells):a=b:=by
 obtain ⟨u,s,k,v⟩:=a
 obtain ⟨u',s',k',v'⟩:=b
 simp only [Ent.cells,List.cons.injEq,Value.string.injEq,and_true] at h
 obtain ⟨h1,h2,h3,h4⟩:=h
 have e2:s=s':=by
  injection h2 with _ h2
  exact BitVec.eq_of_toNat_eq (Int.ofNat_inj.1 h2)
 have e3:k=k':=by
  injection h3 with _ h3
  exact BitVec.eq_of_toNat_eq (Int.ofNat_inj.1 h3)
 rw [h1,e2,e3,h4]
theorem aM4 {a b:Ent}:B (a=b)=true↔a.cells=b.cells:=⟨fun h=>by rw [aAG.1 h],fun h=>mF (aMX h)⟩
theorem aNf {t:Tab} (o:t.Ok):t.info.wf:=by
 have hb:=o.bytes_le
 have hl:=o.light
 have hu:∀ i,(t.ents.getD i Ent.zero).user.size≤50000:=fun i=>by
  by_cases h:i<t.ents.length
  ·have:=aAE h; have:=hl.2; omega
  rw [List.getD_eq_getElem?_getD,List.getElem?_eq_none (by omega)]; decide
 have h1:=hu 0
 have h2:=hu (t.ents.length-1)
 have a1:=t.h.level.isLt; have a2:=t.h.gen.isLt; have a3:=t.h.epoch.isLt; have a4:=t.h.num.isLt
 have b1:=hl.1
 refine ⟨⟨?_,?_⟩,⟨?_,?_⟩,⟨?_,?_⟩,?_,?_,⟨?_,?_⟩,⟨?_,?_⟩,⟨?_,?_⟩,fun j hj=>?_⟩
 all_goals first
  | (show (jR t.ents).size≤_; unfold jR; omega)
  | (show (fY t.ents).size≤_; unfold fY; omega)
  |skip
 all_goals simp only [Tab.info]
 all_goals first
  |omega
  | (have:=(dJ t.leaves j).isLt; omega)
theorem aPg {a b:Ent}:(lt a.user b.user||(a.user.toList == b.user.toList&&decide ((a.seq.toNat:Int) > (b.seq.toNat:Int))))=dQ a b:=by
 unfold dQ
 congr 2
 exact decide_eq_decide.2 (by omega)
theorem aQc {a b:List Ent} (h:a.length≠b.length):B (a=b)=false:=qO fun q=>h (by rw [q])
theorem aQd {a b:List Ent} {k:Nat} {x y:Ent} (hx:a[k]? = some x) (hy:b[k]? = some y) (h:¬ x=y):B (a=b)=false:=qO fun q=>by rw [q,hy] at hx; exact h (Option.some.inj hx).symm
theorem aQf {a b:List Ent} {k:Nat} (hl:a.length=b.length) (hk:a.length≤k) (h:∀ j,j<k→a[j]? = b[j]?):B (a=b)=true:=mF (List.ext_getElem? fun j=>by
 by_cases hj:j<k
 ·exact h j hj
 ·rw [List.getElem?_eq_none (by omega),List.getElem?_eq_none (by omega)])
theorem aQe {a b:List Ent} {k:Nat} {x y:Ent} (h:∀ j,j<k→a[j]? = b[j]?) (hx:a[k]? = some x) (hy:b[k]? = some y) (e:x=y):∀ j,j<k+1→a[j]? = b[j]?:=fun j hj=>by
 rcases Nat.lt_succ_iff_lt_or_eq.1 hj with h1|rfl
 ·exact h j h1
 ·rw [hx,hy,e]
def uB:ByteArray:=⟨#[97]⟩
def bsB:ByteArray:=⟨#[98]⟩
def gS:Ent:=⟨uB,5#64,0#8,ByteArray.empty⟩
def vZ:Hd:=⟨2#8,0#8,0#64,0#64,0#64⟩
theorem aQp {root:Nat→Y} {L:List Y} {m:Meta} {er:Int} {blk every bits:Int} (h:aAH root vZ [] blk every bits L m er):er=1:=by
 rcases h with h | h
 ·exact h.2.2.2
 ·exact absurd (.inr (.inr (.inl rfl))) h.1
theorem aIq:¬ sG vZ [gS] 1 1:=by
 have h1:bT gS=true:=by unfold bT gS; simp only [ByteArray.toList_eq]; decide
 have h2:cZ [gS]=true:=aIK (k:=0) (by simp) (fun i hi=>absurd hi (Nat.not_lt_zero _))
 rintro (h | h | h | h | h | h | h | ⟨e,he,h⟩ | h)
 ·exact h rfl
 ·exact absurd h (by decide)
 ·cases h
 ·omega
 ·omega
 ·omega
 ·omega
 ·obtain rfl:=List.mem_singleton.1 he; rw [h1] at h; cases h
 ·rw [h2] at h; cases h
theorem aIp:lightE [gS]:=⟨by decide,by decide⟩
theorem aQq {root:Nat→Y} {bits:Int} {L:List Y} {m:Meta} {er:Int} (h:aAH root vZ [gS] 1 1 bits L m er) :
  er=0∧m.wf∧L.length≤150000∧∀ user seq,vY root m L user seq=some (oP [gS] user seq):=by
 rcases h with h | ⟨hn,rfl,rfl,rfl⟩
 ·exact absurd h.1 aIq
 ·have g:=aGn (root:=root) (bits:=bits) aIq aIp
  exact ⟨rfl,aNf g.ok,g.ok.bytes_le,fun user seq=>by have e:=aRq g (user:=user) (seq:=seq); have e2:(cX root vZ [gS] 1 1 bits).ents=[gS]:=oW 1 [gS]; rw [e2] at e; exact e⟩
theorem aQm:dQ gS ⟨uB,9#64,0,ByteArray.empty⟩=false:=by unfold dQ lt; simp only [ByteArray.toList_eq]; decide
theorem aQn:dQ gS ⟨uB,4#64,0,ByteArray.empty⟩=true:=by unfold dQ lt; simp only [ByteArray.toList_eq]; decide
theorem aQo:dQ gS ⟨bsB,9#64,0,ByteArray.empty⟩=true:=by unfold dQ lt; simp only [ByteArray.toList_eq]; decide
theorem aQr:oP [gS] uB 9#64=some gS:=by unfold oP jJ; rw [List.find?_cons,aQm]; simp [gS]
theorem aQs:oP [gS] uB 4#64=none:=by unfold oP jJ; rw [List.find?_cons,aQn]; rfl
theorem aQt:oP [gS] bsB 9#64=none:=by unfold oP jJ; rw [List.find?_cons,aQo]; rfl
section
variable {root:Nat→Y} {h:Hd} {l:List Ent} {blk every bits er:Int} {L:List Y} {m:Meta}
end
end Go.Tan
namespace Go.Proofs.YtbdnclpopappeaaGreatDoor
open Go.Tan Go.RowKit
set_option maxRecDepth 100000
theorem aJ9:Tryz.prog.cellsOf 139=1:=by kernel_rfl
theorem aKA:Tryz.prog.cellsOf 192=64:=by kernel_rfl
theorem aB0:Tryz.prog.cellsOf 5=1:=by kernel_rfl
theorem aEb:Tryz.prog.cellsOf 24=1:=by kernel_rfl
theorem aKB:Tryz.prog.cellsOf 3=1:=by kernel_rfl
theorem aKD:Tryz.prog.cellsOf 9=1:=by kernel_rfl
theorem aEa:Tryz.prog.cellsOf 23=32:=by kernel_rfl
theorem gC:Tryz.prog.globalNamed "tantalus/sha.constants" = some 1:=by kernel_rfl
theorem gCT:(Tryz.prog.globals[1]?).map (·.type)=some 192:=by kernel_rfl
theorem gR:Tryz.prog.globalNamed "tantalus/tantalusref03.K" = some 0:=by kernel_rfl
theorem gRT:(Tryz.prog.globals[0]?).map (·.type)=some 192:=by kernel_rfl
def aDC:List Int:=[1116352408,1899447441,3049323471,3921009573,961987163,1508970993,2453635748,2870763221,3624381080,310598401,607225278,1426881987,1925078388,2162078206,2614888103,3248222580,3835390401,4022224774,264347078,604807628,770255983,1249150122,1555081692,1996064986,2554220882,2821834349,2952996808,3210313671,3336571891,3584528711,113926993,338241895,666307205,773529912,1294757372,1396182291,1695183700,1986661051,2177026350,2456956037,2730485921,2820302411,3259730800,3345764771,3516065817,3600352804,4094571909,275423344,430227734,506948616,659060556,883997877,958139571,1322822218,1537002063,1747873779,1955562222,2024104815,2227730452,2361852424,2428436474,2756734187,3204031479,3329325298]
theorem aG1:∀ j,j<64→aDC.getD j 0=((kW j).toNat:Int):=by decide
theorem aRP {W:World} {rest:List (String×DataW Unit)} (h:laidMet Tryz.prog (("tantalus/sha.constants",Rows.laid_tantalus_sha_constants) :: rest) W):RdNP (fun b=>W.heap[b]?) 1 0 (wa 64 kW) :=
 aI5 (Lib.tabIs_of_head (zs:=aDC) (rest:=rest) gC gCT Tryz.underlying192 Tryz.underlying139 aJ9 aKA h) gC rfl aG1
theorem aRQ {W:World} {x:String×DataW Unit} {rest:List (String×DataW Unit)} (h:laidMet Tryz.prog (x :: ("tantalus/tantalusref03.K",Rows.laid_tantalus_tantalusref03_K) :: rest) W):RdNP (fun b=>W.heap[b]?) 0 0 (wa 64 kW) :=
 aI5 (Lib.tabIs_of_head (zs:=aDC) (rest:=rest) gR gRT Tryz.underlying192 Tryz.underlying139 aJ9 aKA (aNr h)) gR rfl aG1
def aNl:Array Value:=#[.int .u32 1116352408,.int .u32 1899447441,.int .u32 3049323471,.int .u32 3921009573,.int .u32 961987163,.int .u32 1508970993,.int .u32 2453635748,.int .u32 2870763221,.int .u32 3624381080,.int .u32 310598401,.int .u32 607225278,.int .u32 1426881987,.int .u32 1925078388,.int .u32 2162078206,.int .u32 2614888103,.int .u32 3248222580,.int .u32 3835390401,.int .u32 4022224774,.int .u32 264347078,.int .u32 604807628,.int .u32 770255983,.int .u32 1249150122,.int .u32 1555081692,.int .u32 1996064986,.int .u32 2554220882,.int .u32 2821834349,.int .u32 2952996808,.int .u32 3210313671,.int .u32 3336571891,.int .u32 3584528711,.int .u32 113926993,.int .u32 338241895,.int .u32 666307205,.int .u32 773529912,.int .u32 1294757372,.int .u32 1396182291,.int .u32 1695183700,.int .u32 1986661051,.int .u32 2177026350,.int .u32 2456956037,.int .u32 2730485921,.int .u32 2820302411,.int .u32 3259730800,.int .u32 3345764771,.int .u32 3516065817,.int .u32 3600352804,.int .u32 4094571909,.int .u32 275423344,.int .u32 430227734,.int .u32 506948616,.int .u32 659060556,.int .u32 883997877,.int .u32 958139571,.int .u32 1322822218,.int .u32 1537002063,.int .u32 1747873779,.int .u32 1955562222,.int .u32 2024104815,.int .u32 2227730452,.int .u32 2361852424,.int .u32 2428436474,.int .u32 2756734187,.int .u32 3204031479,.int .u32 3329325298]
def aIn:Obj→Obj
 | .cells _ t frozen=>.cells aNl t frozen
 | o=>o
noncomputable def aDF (os:Os):World :=
 { World.holding Tryz.prog os ⟨#[], #[],[]⟩ with heap:=((World.holding Tryz.prog os ⟨#[], #[],[]⟩).heap.modify 0 aIn).modify 1 aIn }
section
variable {H:Type} {R:Nat} {enc:TypeId×Value→H} {W:World} {cs:List Value}
theorem aLO {t:TypeId} {fs:Array Field} {base:Nat} {v:Value} (ht:Tryz.prog.underlying t=some (.struct fs)) (h:Value.okWide Tryz.prog W .any base t v) {l:List Value} (hl:v.cells.toList=l):v=.agg l.toArray:=by
 unfold Value.okWide at h
 rw [ht] at h
 obtain ⟨c,rfl,_⟩:=h
 rw [← hl]; rfl
end
theorem aRd:ownKnob Tryz.prog.godebug=none:=by kernel_rfl
theorem aRc:laidOutB Tryz.prog=true:=by kernel_rfl
end Go.Proofs.YtbdnclpopappeaaGreatDoor
namespace Go.Tan
open Go.RowKit
theorem aHY {o:Option (List Y)} {L:List Y} {e:Int} (h:OpenR o L e) (he:(e == 0)=false):o=none:=by
 rw [h.ok] at he
 cases o with
 | none=>rfl
 | some _=>cases he
theorem aHZ {o:Option (List Y)} {L:List Y} {e:Int} (h:OpenR o L e) (he:(e == 0)=true):o=some L:=by
 rcases h with ⟨h,_⟩ | ⟨_,_,rfl⟩
 ·exact h
 ·cases he
section
variable {root:Nat→Y} {h:Hd} {x:RowT} {part i:Nat} {L y:List Y} {rows:List RowT} {l:List Ent} {e:Int}
theorem aJe (c:decide (yl 32 (dH x.bytes)=yl 32 x.leaf)=false):dS root h x part=none:=by unfold dS; rw [if_neg (of_decide_eq_false c)]
theorem aBp (c:decide (yl 32 (dH x.bytes)=yl 32 x.leaf)=true):dS root h x part=gV root h part x.bytes:=by unfold dS; rw [if_pos (of_decide_eq_true c)]
theorem aMy (hx:rows.getD i gG=x) (hw:dS root h x (2+i)=none):hY root h rows i=none:=by unfold hY; rw [hx,hw]; rfl
theorem aMz (hx:rows.getD i gG=x) (hw:dS root h x (2+i)=some y) (hr:(l,e)=gM y) (he:(e == 0)=false):hY root h rows i=none:=by
 unfold hY; rw [hx,hw,Option.bind_some,←hr,if_neg (by simpa using he)]
theorem aM0 (hx:rows.getD i gG=x) (hw:dS root h x (2+i)=some y) (hr:(l,e)=gM y) (he:(e == 0)=true):hY root h rows i=some l:=by
 unfold hY; rw [hx,hw,Option.bind_some,←hr,if_pos (by simpa using he)]
end
theorem aIM {m:Meta} (hw:m.wf) {d:Dg} (h:yl 32 d=yl 32 (fun i=>BitVec.ofInt 8 (m.root i))):(yl 32 d).map (fun y=>((y.toNat:Nat):Int))=(List.range 32).map m.root:=by
 rw [h,yl,List.map_map]
 refine List.map_congr_left fun i hi=>?_
 have:=hw.root i (List.mem_range.1 hi)
 show (((BitVec.ofInt 8 (m.root i)).toNat:Nat):Int)=_
 rw [BitVec.toNat_ofInt]; omega
def kZ (m:Meta) (ix:List Y) (rows:List RowT):Option (List RowT×List Y) :=
 if (yl 32 (dJ (rows.map (·.leaf)++[dH ix]))).map (fun y=>((y.toNat:Nat):Int))=(List.range 32).map m.root then some (rows,ix) else none
section
variable {root:Nat→Y} {m:Meta} {xs y L A ix:List Y} {h:Hd} {e:Int} {n k:Nat} {O:Option (List RowT)}
theorem aFd (hT:gY xs=(h,e)) (hc:((((xs.length:Int) == m.size)&&(e == 0))&&decide (h=bH m)&&decide ((xs.length:Int)≥38))=false):dD root m xs=none:=by
 unfold dD
 rw [if_neg]
 rintro ⟨h1,h2,h3,h4,_⟩
 rw [hT] at h1 h3
 simp only at h1 h3
 subst h1; subst h3
 simp [h2] at hc; omega
theorem aFi (hc:((((xs.length:Int) == m.size)&&(e == 0))&&decide (h=bH m)&&decide ((xs.length:Int)≥38))=true):(e=0∧h=bH m)∧(xs.length:Int)=m.size∧38≤xs.length:=by
 simp only [Bool.and_eq_true,beq_iff_eq,decide_eq_true_eq] at hc
 obtain ⟨⟨⟨h1,h2⟩,h3⟩,h4⟩:=hc
 exact ⟨⟨h2,h3⟩,h1,by omega⟩
theorem aFe (hk:¬ jT xs≤xs.length-38):dD root m xs=none:=by
 unfold dD
 rw [if_neg]
 rintro ⟨_,_,_,_,h5⟩
 exact hk h5
theorem aCS (hT:gY xs=(bH m,0)) (hs:(xs.length:Int)=m.size) (hl:38≤xs.length) (hk:jT xs≤xs.length-38) (hi:ix=(lV xs).drop (xs.length-38-jT xs)) (hA:A=(lV xs).take (xs.length-38-jT xs)) :
  dD root m xs=(gV root (bH m) 0 ix).bind fun y=>((cT fun n r=>if 0<n then cS (n+1) [] A r else none) y).bind (kZ m ix):=by
 subst hi; subst hA
 unfold dD
 rw [if_pos ⟨by rw [hT],hs,by rw [hT],hl,hk⟩]
 rfl
theorem aL5 (hB:dD root m xs=(gV root (bH m) 0 ix).bind fun y=>((cT fun n r=>if 0<n then cS (n+1) [] A r else none) y).bind (kZ m ix)) (ho:gV root (bH m) 0 ix=none):dD root m xs=none:=by rw [hB,ho]; rfl
theorem aLv (hB:dD root m xs=(gV root (bH m) 0 ix).bind fun y=>((cT fun n r=>if 0<n then cS (n+1) [] A r else none) y).bind (kZ m ix)) (ho:gV root (bH m) 0 ix=some y) (hN:cR ⟨y,0⟩=(n,⟨L,e⟩)) :
  dD root m xs=(if e=0∧0<n then cS (n+1) [] A L else none).bind (kZ m ix):=by
 rw [hB,ho,Option.bind_some]
 congr 1
 rcases (xX (b:=y) (k:=cT fun n r=>if 0<n then cS (n+1) [] A r else none)).numE hN with ⟨h1,_,h3⟩ | ⟨h1,h2⟩
 ·simp only at h1 h3
  rw [h3]
  by_cases hn:0<n
  ·rw [if_pos hn,if_pos ⟨h1,hn⟩]
  ·rw [if_neg hn,if_neg (fun q=>hn q.2)]
 ·rw [h1,if_neg]
  intro q
  rcases h2 with h2 | h2
  ·cases h2
  ·exact h2 q.1
theorem aL6 (hB:dD root m xs=(if e=0∧0<n then cS (n+1) [] A L else none).bind (kZ m ix)) (hd:(decide ((n:Int) > 0)&&(e == 0))=false):dD root m xs=none:=by
 rw [hB,if_neg]
 ·rfl
 ·rintro ⟨h1,h2⟩
  simp only [h1,Bool.and_eq_false_iff,decide_eq_false_iff_not] at hd
  rcases hd with hd | hd
  ·omega
  ·simp at hd
theorem aL8 (hd:(decide ((n:Int) > 0)&&(e == 0))=true):0<n∧e=0:=by
 simp only [Bool.and_eq_true,decide_eq_true_eq,beq_iff_eq] at hd
 exact ⟨by omega,hd.2⟩
theorem bgO (hB:dD root m xs=(if (0:Int)=0∧0<n then cS (n+1) [] A L else none).bind (kZ m ix)) (hn:0<n):∃ O,O=cS (n+1) [] A L∧dD root m xs=O.bind (kZ m ix) :=
 ⟨_,rfl,by rw [hB,if_pos ⟨rfl,hn⟩]⟩
end
section
variable {acc:List RowT} {A R:List Y} {n k:Nat} {O:Option (List RowT)}
theorem aFh (h:O=cS (n+1-k) acc A R) (hk:k<n):Tk O ⟨R,0⟩ false (pH 1024 fun bd=>cT fun size=>iL fV 32 fun xs=>mZ (n-k) acc A bd size (fun i=>xs.getD i 0)):=by
 rw [show n+1-k=(n-k)+1 by omega] at h
 refine .inl ⟨rfl,rfl,h.trans ?_⟩
 show qI (n-k == 0) _ R=_
 rw [show (n-k == 0)=false from beq_eq_false_iff_ne.2 (by omega)]
 rfl
theorem aFg (h:O=cS (n+1-k) acc A R) (hk:¬ k<n) (hk2:k≤n):Tk O ⟨R,0⟩ false (cT fun size=>iL fV 32 fun xs=>mZ (n-k) acc A [] size (fun i=>xs.getD i 0)):=by
 rw [show n+1-k=(n-k)+1 by omega] at h
 refine .inl ⟨rfl,rfl,h.trans ?_⟩
 show qI (n-k == 0) _ R=_
 rw [show (n-k == 0)=true from beq_iff_eq.2 (by omega)]
 rfl
theorem aCW {s:Rd'} {size:Nat} {bd rt:List Y} {f:Nat→Y} (hf:∀ i,f i=rt.getD i 0) (h:Tk O s false (mZ (n-k) acc A bd size (fun i=>rt.getD i 0))) :
  (s.bad=0∧size≤A.length→O=cS (n+1-(k+1)) (acc++[⟨bd,A.take size,f⟩]) (A.drop size) s.rest)∧(¬ (s.bad=0∧size≤A.length)→O=none):=by
 rw [show n+1-(k+1)=n-k by omega,show f=fun i=>rt.getD i 0 from funext hf]
 rcases h with ⟨h1,_,h3⟩ | ⟨h1,h2⟩
 ·rw [h3]
  unfold mZ
  by_cases c:size≤A.length
  ·rw [if_pos c]; exact ⟨fun _=>rfl,fun q=>absurd ⟨h1,c⟩ q⟩
  rw [if_neg c]; exact ⟨fun q=>absurd q.2 c,fun _=>rfl⟩
 refine ⟨fun q=>?_,fun _=>h1⟩
 rcases h2 with h2 | h2
 ·cases h2
 exact absurd q.1 h2
theorem aFf {α:Type} {X:Option α} {K:List RowT→Option α} {e:Int} {size:Nat} {len:Int} (hO:X=O.bind K) (hg:¬ (e=0∧size≤A.length)→O=none) (hl:len=(A.length:Int)) (hd:((e == 0)&&decide ((size:Int)≤len))=false):X=none:=by
 rw [hO,hg]
 ·rfl
 ·rintro ⟨h1,h2⟩
  subst h1; subst hl
  rw [decide_eq_true (by omega)] at hd
  cases hd
theorem aFj {e:Int} {size:Nat} {len:Int} (hl:len=(A.length:Int)) (hd:((e == 0)&&decide ((size:Int)≤len))=true):e=0∧size≤A.length:=by
 simp only [Bool.and_eq_true,decide_eq_true_eq,beq_iff_eq] at hd
 exact ⟨hd.1,by omega⟩
theorem bge (R A:List Y):(R=[]∧A=[])∨(R=[]∧¬ A=[])∨¬ R=[]:=by
 by_cases h:R=[]
 ·by_cases h2:A=[]
  ·exact .inl ⟨h,h2⟩
  ·exact .inr (.inl ⟨h,h2⟩)
 ·exact .inr (.inr h)
theorem aGP (h:¬ R=[]):(oX R 0 == 0)=false:=by
 unfold oX
 rw [if_pos ⟨rfl,by cases R with | nil=>exact absurd rfl h | cons _ _=>simp⟩]; rfl
theorem aBU (h:¬ (R=[]∧A=[])):cS 0 acc A R=none:=by unfold cS; rw [if_neg h]
theorem aDz:cS 0 acc [] []=some acc:=by unfold cS; rw [if_pos ⟨rfl,rfl⟩]
end
theorem aL7 {X:Option (List RowT×List Y)} {O:Option (List RowT)} {m:Meta} {ix:List Y} {acc:List (RowT×Sh)} {D:List Dg} (hw:m.wf) (hO:X=O.bind (kZ m ix)) (hr:O=some (acc.map (·.1))) (eD:D=acc.map (fun p=>p.1.leaf))
  (hd:(true&&decide (yl 32 (dJ (D++[dH ix]))=yl 32 (fun i=>BitVec.ofInt 8 (m.root i))))=false):X=none:=by
 rw [Bool.true_and] at hd
 rw [hO,hr,Option.bind_some,kZ,if_neg]
 intro q
 refine of_decide_eq_false hd (aDr hw ?_)
 rw [eD]; rw [List.map_map] at q; exact q
theorem aL9 {X:Option (List RowT×List Y)} {O:Option (List RowT)} {m:Meta} {ix:List Y} {acc:List (RowT×Sh)} {D:List Dg} (hw:m.wf) (hO:X=O.bind (kZ m ix)) (hr:O=some (acc.map (·.1))) (eD:D=acc.map (fun p=>p.1.leaf))
  (hd:(true&&decide (yl 32 (dJ (D++[dH ix]))=yl 32 (fun i=>BitVec.ofInt 8 (m.root i))))=true):X=some (acc.map (·.1),ix):=by
 rw [Bool.true_and] at hd
 rw [hO,hr,Option.bind_some,kZ,if_pos]
 have:=aIM hw (of_decide_eq_true hd)
 rw [eD] at this; rw [List.map_map]; exact this
def xF (o:Option (List Ent)) (l:List Ent) (er:Int):Prop:=(o=some l∧er=0)∨(o=none∧l=[]∧er=170)
def xW (o:Option (List (List Y))) (l:List (List Y)) (er:Int):Prop:=(o=some l∧er=0)∨(o=none∧l=[]∧er=170)
noncomputable def pV (m:Meta) (l:List Ent):Option (List Ent):=if cZ l=true∧(l.length:Int)=m.count∧(l=[]∨jR l=m.min∧fY l=m.max) then some l else none
section
variable {root:Nat→Y} {m:Meta} {b ix f:List Y} {rows:List RowT} {hd:Hd} {acc x:List Ent} {n j k:Nat} {X:Option (List Ent)} {K:List Ent→Option (List Ent)}
theorem aFM (h:dD root m b=none):kB root m b=none:=by unfold kB; rw [h]; rfl
theorem aFN (h:dD root m b=some (rows,ix)) (hw:dS root (bH m) (rows.getD (rows.length-1) gG) 1=none):kB root m b=none:=by unfold kB; rw [h,Option.bind_some]; simp only [hw]; rfl
theorem aFL (h:dD root m b=some (rows,ix)) (hw:dS root (bH m) (rows.getD (rows.length-1) gG) 1=some f):kB root m b=(kY root (bH m) rows (rows.length-1) 0 []).bind (pV m):=by
 unfold kB; rw [h,Option.bind_some]; simp only [hw]; rfl
theorem aFT (h:X=(kY root hd rows (n-j) j acc).bind K) (hj:j<n):(hY root hd rows j=none→X=none)∧∀ x,hY root hd rows j=some x→X=(kY root hd rows (n-(j+1)) (j+1) (acc++x)).bind K:=by
 obtain ⟨q,hq⟩ : ∃ q,n-j=q+1:=⟨n-j-1,by omega⟩
 rw [hq,kY] at h
 refine ⟨fun e=>by rw [h,e]; rfl,fun x e=>?_⟩
 rw [h,e,Option.bind_some,show n-(j+1)=q by omega]
theorem aFR (h:X=(kY root hd rows (n-k) k acc).bind K) (hk:n≤k):X=K acc:=by
 rw [h,show n-k=0 by omega,kY,Option.bind_some]
theorem aFS {l:List Ent} (h:X=pV m l) (hd:(cZ l&&((l.length:Int) == m.count)&&(((l.length:Int) == 0)||(((l.getD 0 Ent.zero).user.toList == m.min.toList)&&((l.getD (l.length-1) Ent.zero).user.toList == m.max.toList))))=false):X=none:=by
 rw [h,pV,if_neg]
 intro q
 rw [aLT q] at hd; cases hd
theorem aFU {l:List Ent} (h:X=pV m l) (hd:(cZ l&&((l.length:Int) == m.count)&&(((l.length:Int) == 0)||(((l.getD 0 Ent.zero).user.toList == m.min.toList)&&((l.getD (l.length-1) Ent.zero).user.toList == m.max.toList))))=true):X=some l:=by
 rw [h,pV,if_pos]
 simp only [Bool.and_eq_true,Bool.or_eq_true,beq_iff_eq] at hd
 obtain ⟨⟨h1,h2⟩,h3⟩:=hd
 refine ⟨h1,h2,?_⟩
 rcases h3 with h3 | h3
 ·exact .inl (List.eq_nil_of_length_eq_zero (by omega))
 exact .inr ⟨yG h3.1,yG h3.2⟩
theorem aHf (h:dD root m b=none):sU root m b=none:=by unfold sU; rw [h]; rfl
theorem aHe (h:dD root m b=some (rows,ix)):sU root m b=some (rows.map (·.bytes)++[ix]):=by unfold sU; rw [h]; rfl
end
section
variable {root:Nat→Y} {m:Meta} {b ix f:List Y} {rows:List RowT} {user:ByteArray} {seq:BitVec 64} {Q:Option (Option Ent)} {hd:Hd}
end
section
variable {root:Nat→Y} {m:Meta} {b ix:List Y} {rows:List RowT} {l:List Ent}
end
def rF (root:Nat→Y) (m:Meta) (v:Value):List Value:=ba 32 root++(m.cells++[v])
theorem aAn {root:Nat→Y} {m:Meta} {v:Value}:((rF root m v).drop 32).take 40=m.cells:=by
 rw [rF,List.drop_left' (aU _ _),List.take_left' (Meta.len m)]
theorem aMO {root:Nat→Y} {m:Meta} {v:Value}:(rF root m v).drop 32=m.cells++[v]:=by rw [rF,List.drop_left' (aU _ _)]
theorem yF {root:Nat→Y} {m:Meta} {v:Value}:(rF root m v)[72]? = some v:=by
 have:(rF root m v)[72]? = ((rF root m v).drop 32)[40]?:=by rw [List.getElem?_drop]
 rw [this,aMO,List.getElem?_append_right (by rw [Meta.len]; decide),Meta.len]; rfl
theorem aOO {G:PM} {xs:List Y} {h:Sh} (hs:SlR G 1 aL h xs) (c:h.oa.isNone=true):xs=[]:=by
 cases xs with
 | nil=>rfl
 | cons x l=>have:=hs.nn (k:=0) (by simp); rw [this] at c; cases c
theorem aLu {root:Nat→Y} {m:Meta} {b ix:List Y} {rows:List RowT} (hB:dD root m b=some (rows,ix)):ix.length≤b.length:=by
 have B:=aAi hB
 rw [B.eix,List.length_drop,lV,List.length_take,List.length_drop]; omega
end Go.Tan
namespace Go.Proofs.YtbdnclpopappeaaGreatDoor
open Go.Tan Go.RowKit
set_option maxRecDepth 100000
theorem aKC:Tryz.prog.cellsOf 36=40:=by kernel_rfl
theorem aSk:Tryz.prog.cellsOf 43=73:=by kernel_rfl
theorem aSj:Tryz.prog.cellsOf 34=1:=by kernel_rfl
theorem aSi:Tryz.prog.bytesOf 5=1:=by kernel_rfl
section
variable {H:Type} {R:Nat} {enc:TypeId×Value→H} {W:World} {cs:List Value}
theorem aOI (hR:R≤140737488351232) (h:Rg R enc Tryz.prog W 36 cs):∃ m:Meta,cs=m.cells∧m.wf:=by
 have hl:=h.len Tryz.underlying36
 rw [aKC] at hl
 obtain ⟨n0,h0,w0⟩:=h.intAt Tryz.underlying36 0 5 0 rfl Tryz.underlying5 aB0
 obtain ⟨n1,h1,w1⟩:=h.intAt Tryz.underlying36 1 24 1 rfl Tryz.underlying24 aEb
 obtain ⟨n2,h2,w2⟩:=h.intAt Tryz.underlying36 2 24 2 rfl Tryz.underlying24 aEb
 obtain ⟨n3,h3,w3⟩:=h.intAt Tryz.underlying36 3 24 3 rfl Tryz.underlying24 aEb
 obtain ⟨n4,h4,w4⟩:=h.intAt Tryz.underlying36 4 3 4 rfl Tryz.underlying3 aKB
 obtain ⟨n5,h5,w5⟩:=h.intAt Tryz.underlying36 5 3 5 rfl Tryz.underlying3 aKB
 obtain ⟨s6,h6,w6⟩:=h.strAt Tryz.underlying36 6 9 6 rfl Tryz.underlying9 aKD
 obtain ⟨s7,h7,w7⟩:=h.strAt Tryz.underlying36 7 9 7 rfl Tryz.underlying9 aKD
 obtain ⟨r,hr⟩:=(h.fld Tryz.underlying36 8 23 8 rfl aEa).ints Tryz.underlying23 Tryz.underlying5 aB0
 rw [show IntKind.u8.min=0 by decide,show IntKind.u8.max=255 by decide] at w0
 rw [show IntKind.u64.min=0 by decide,show IntKind.u64.max=18446744073709551615 by decide] at w1
 rw [show IntKind.u64.min=0 by decide,show IntKind.u64.max=18446744073709551615 by decide] at w2
 rw [show IntKind.u64.min=0 by decide,show IntKind.u64.max=18446744073709551615 by decide] at w3
 rw [show IntKind.i64.min = -9223372036854775808 by decide,show IntKind.i64.max=9223372036854775807 by decide] at w4
 rw [show IntKind.i64.min = -9223372036854775808 by decide,show IntKind.i64.max=9223372036854775807 by decide] at w5
 refine ⟨⟨n0,n1,n2,n3,n4,n5,s6,s7,r⟩,aN0 hl fun i hi=>?_,⟨w0.1,by show n0<_; omega⟩,⟨w3.1,by show n3<_; omega⟩,w4,Nat.le_trans w6 (by omega),Nat.le_trans w7 (by omega),w1,w2,w5,fun j hj=>?_⟩
 ·match i,hi with
  | 0,_=>exact h0
  | 1,_=>exact h1
  | 2,_=>exact h2
  | 3,_=>exact h3
  | 4,_=>exact h4
  | 5,_=>exact h5
  | 6,_=>exact h6
  | 7,_=>exact h7
  | n+8,hi =>
   have hn:n<32:=by have:n+8<40:=hi; omega
   rw [show n+8=8+n by omega,aRV (hr n hn).1]
   rw [Meta.cells,List.getElem?_append_right (by simp)]
   simp [hn]
 have w8:=(hr j hj).2; rw [show IntKind.u8.min=0 by decide,show IntKind.u8.max=255 by decide] at w8; exact w8
theorem aQ7 (hl:cs.length=73) {a b c:List Value} (h0:(cs.drop 0).take 32=a) (h1:(cs.drop 32).take 40=b) (h2:(cs.drop 72).take 1=c):cs=a++(b++c):=by
 rw [← h0,←h1,←h2,List.drop_zero]
 have e1:cs.drop 72=(cs.drop 32).drop 40:=by rw [List.drop_drop]
 rw [e1,List.take_of_length_le (l:=(cs.drop 32).drop 40) (by simp [hl]),List.take_append_drop,List.take_append_drop]
theorem aMP (hR:R≤140737488351232) (h:Rg R enc Tryz.prog W 43 cs):∃ (root:Nat→Y) (m:Meta) (hx:Sh) (xs:List Y),cs=rF root m (hx.val xs.length)∧m.wf∧SlR (fun b=>W.heap[b]?) 1 aL hx xs:=by
 have hl:=h.len Tryz.underlying43
 rw [aSk] at hl
 obtain ⟨r,hr⟩:=(h.fld Tryz.underlying43 0 23 0 rfl aEa).ba Tryz.underlying23 Tryz.underlying5 aB0 aEa
 obtain ⟨m,hm,hw⟩:=aOI hR (h.fld Tryz.underlying43 1 36 32 rfl aKC)
 obtain ⟨hx,xs,hb,hs,_⟩:=(h.fld Tryz.underlying43 2 34 72 rfl aSj).bsl Tryz.underlying34 Tryz.underlying5 aB0 aSi
 exact ⟨r,m,hx,xs,aQ7 hl hr hm hb,hw,hs⟩
end
end Go.Proofs.YtbdnclpopappeaaGreatDoor
namespace Go.Tan
open Go.RowKit
section
variable {dr:Bool} {mc:Md} {P:Program} {n:Fm} {l:List Oper} {K:aK→PM→aG→Prop} {i:Nat} {σ:List Nat} {ρ:aK} {G:PM} {μ:aG}
variable {d t:Nat} {p:String} {af:Array Edge} {g:Option (Nat×Bool)} {c:Bool}
theorem b2 {T E sz by':Nat} {x y:Operand} {v u z:Value} {cs ds:List Value} (ho:nth l i=some ⟨some d,.buildSlice T 2 #[(0,x),(1,y)],t,p,af,none⟩) (hT:cG P T=some (E,sz,by')) (hz:(P.info? E).bind (·.zero)=some z) (hx:Ev ρ true x v) (hy:Ev ρ true y u) (hv:v.cells=cs.toArray) (hu:u.cells=ds.toArray) (hl:cs.length=sz) (hl2:ds.length=sz) (h0:0<sz∧sz≤8388608)
  (h:∀ b,Wo dr mc P n l K σ ((d,true,.slice (some ⟨b,0,none⟩) 2 2) :: ρ) G (.blk b (cl (cs++ds) E) :: μ)):Wo dr mc P n l K (i :: σ) ρ G μ:=by
 refine bSg (ps:=[(0,x),(1,y)]) (vs:=[(0,v),(1,u)]) (cs:=cs++ds) ho .no hT (fun a ha hc=>by simp [hx.eval ha hc,hy.eval ha hc]) ?_ h
 obtain ⟨hu',inf,hi,rfl,_⟩:=gX hT
 rw [hi] at hz
 simp only [Option.bind_some] at hz
 simp only [rE,hu',hi,hz]
 rw [if_neg (by omega)]
 generalize ha:(Array.range (2*inf.size)).map (z.cells[·%z.cells.size]!)=arr
 have hs:arr.toList.length=2*inf.size:=by rw [← ha]; simp
 have h2:=vW (place:=fun j=>some (j*inf.size,inf.size)) (cs:=arr.toList) (j:=0) (off:=0) (size:=inf.size) (rest:=[(1,u)]) (by simp) hv hl (by omega)
 simp only [Array.toArray_toList] at h2
 rw [h2]
 have e1:arr.toList.take 0++cs++arr.toList.drop (0+cs.length)=cs++arr.toList.drop inf.size:=by rw [hl]; simp
 rw [e1]
 have h3:=vW (place:=fun j=>some (j*inf.size,inf.size)) (cs:=cs++arr.toList.drop inf.size) (j:=1) (off:=inf.size) (size:=inf.size) (rest:=[]) (by simp) hu hl2 (by rw [List.length_append,List.length_drop]; omega)
 rw [h3]
 have e2:(cs++arr.toList.drop inf.size).take inf.size=cs:=List.take_left' hl
 have e3:(cs++arr.toList.drop inf.size).drop (inf.size+ds.length)=[]:=List.drop_of_length_le (by rw [List.length_append,List.length_drop]; omega)
 rw [e2,e3]
 simp [Instr.fill]
theorem aFW {T E b:Nat} {x y:Operand} {u:Value} {ys:List Y} {μ':aG} (ho:nth l i=some ⟨some d,.call { callee:=.builtin .append,args:=#[x,y],argTypes:=#[T,T] },t,p,af,none⟩)
  (hT:cG P T=some (E,1,1)) (hz:(P.info? E).bind (·.zero)=some (.int .u8 0)) (hx:Ev ρ true x (.slice (some ⟨b,0,none⟩) 0 0)) (hy:Ev ρ true y u) (hm:MTake μ (.blk b (cl [] E)) μ') (hs:Sc G μ u ys) (hb:ys.length≤140737488355328)
  (h:∀ (G':PM) (s:Sh) (L:List Y),L=ys→PM.le G G'→SlR G' 1 aL s L→Wo dr mc P n l K σ ((d,true,s.val L.length) :: ρ) G' μ) (hmc:mc.a=false∨dr=false:=by first|exact .inl rfl|exact .inr rfl):Wo dr mc P n l K (i :: σ) ρ G μ:=by
 obtain ⟨oa,cap,rfl,hr⟩:=hs.ex
 clear hs
 refine .act (μ₁:=[]) (μ₂:=μ) (post:=fun G' μ'' v'=>∃ s:Sh,v'=s.val ys.length∧SlR G' 1 aL s ys∧μ''=[]) ho (by rcases hmc with h | h<;>simp [bR,h]) .no (.refl _) (fun a w ha hs=>.inl ?_) ?_
 ·obtain ⟨hu,inf,hi,hs1,hb1⟩:=gX hT
  by_cases hy0:ys.length=0
  ·have hys:ys=[]:=List.eq_nil_of_length_eq_zero hy0
   subst hys
   have hsμ:Sat G μ w:=by simpa using hs
   have hb0:w.heap[b]? = some (cl [] E):=(hsμ.perm hm.perm).own _ (List.mem_cons_self ..)
   refine ⟨Sh.val ⟨some ⟨b,0,none⟩,0⟩ 0,w,G,[],.inl ?_,nV (Sat.left (μ:=[]) hs),⟨some ⟨b,0,none⟩,0⟩,rfl,⟨fun hne=>absurd rfl hne,Nat.le_refl _,fun i x hx=>by simp at hx⟩,rfl⟩
   simp only [execOp,resolve,invoke,builtin,hx.eval ha rfl,hy.eval ha rfl]
   cases oa<;>simp [hx.eval ha rfl,hy.eval ha rfl,Builtin.append_,run_underlying hu,sizeOf,typeInfo,hi,Builtin.lenOf,Builtin.firstCells,loadCells,loadCellsFrom,storeCells,Sh.val]
  have hz':=hz
  rw [hi] at hz'
  simp only [Option.bind_some] at hz'
  obtain ⟨b2,o2,rfl,hrd⟩:=hr (by omega)
  have hnews:∀ j u,(ys.map V)[j]? = some u→w.cell? ((⟨b2,o2,none⟩ : Addr).add j)=some u:=fun j u hj=>by rw [jZ]; exact hrd j u hj w (by simpa using hs)
  have hrun:=run_append_grow (P:=P) w T t E inf _ hu hi hz' ⟨b,0,none⟩ 0 0 [] (by simp) (fun j u hj=>by simp at hj) ⟨b2,o2,none⟩ ys.length cap (ys.map V) (by rw [hs1]; simp) hnews (by omega) (by omega) (growslice_fits (by omega) (by rw [hb1]; omega))
  have h2:=((nV (Sat.left (μ:=[]) hs)).drew).alloc (.cells (([]:List Value).toArray++(ys.map V).toArray++Builtin.zeroCells (Value.int .u8 0).cells (grownCap w (0+ys.length) 0 E-(0+ys.length))) E)
  have hge:=grownCap_ge w (0+ys.length) 0 E
  have h3:=h2.asRow (m:=ys.length) (cap:=grownCap w (0+ys.length) 0 E) (sz:=1) (xs:=ys.map V) (by simp) (by omega) (grownCap_le_maxLen w (0+ys.length) 0 E (by unfold maxLen; omega)) (by
   simp only [Array.size_append,List.size_toArray,size_zeroCells,List.length_map,List.length_nil]
   have:(Value.int .u8 0).cells.size=1:=rfl
   rw [this]; omega) (by simp)
  obtain ⟨G',s,_,hv,hsl,ht⟩:=Tr.frzB (xs:=ys) (by simpa [rB] using h3) (by simp [keys])
  refine ⟨s.val ys.length,_,G',[],.inl ?_,ht,s,rfl,hsl,rfl⟩
  rw [← hv]
  simp only [Nat.zero_add] at hrun ⊢
  simp [execOp,resolve,invoke,builtin,hx.eval ha rfl,hy.eval ha rfl,hrun]
 rintro v G' μ'' hle ⟨s,rfl,hsl,rfl⟩
 exact h G' s _ rfl hle hsl
end
theorem aLn {m:Nat} {ds:List (Nat→Y)}:∀ u∈ds.flatMap (ba m),u.oneCell'=true:=fun u hu=>by
 obtain ⟨d,_,h⟩:=List.mem_flatMap.1 hu
 exact dW _ _ u h
theorem aQh (x:BitVec 64):x*256#64=x <<< 8:=by
 apply BitVec.eq_of_toNat_eq
 rw [BitVec.toNat_mul,BitVec.toNat_shiftLeft,Nat.shiftLeft_eq]; rfl
theorem aNt {e:Ent} {L:List Y} (h:L=cO (e.seq*256#64+e.kind.setWidth 64) 8):aN (yb e.user++yb (aN L))=aN (bZ e):=by
 rw [h,aQh,iD]; rfl
theorem aPQ {e:Ent}:((((decide ((e.user.size:Int)≤1024)&&decide ((e.seq.toNat:Int)≤72057594037927935))&&decide ((e.kind.toNat:Int)≤1))&&decide ((e.value.size:Int)≤65536))&&(((e.kind.toNat:Int) == 1)||(e.value.toList == (⟨#[]⟩ : ByteArray).toList)))=bT e:=by
 have h0:(⟨#[]⟩ : ByteArray).toList=[]:=by rw [ByteArray.toList_eq]
 rw [h0]
 unfold bT
 have hs:decide ((e.seq.toNat:Int)≤72057594037927935)=decide (e.seq.toNat≤72057594037927935):=decide_eq_decide.2 (by omega)
 rw [hs]
 by_cases k0:e.kind=0#8
 ·rw [if_pos k0,k0]
  cases decide ((e.user.size:Int)≤1024)<;>cases decide ((e.value.size:Int)≤65536)<;>cases decide (e.seq.toNat≤72057594037927935)<;>cases (e.value.toList == [])<;>rfl
 ·rw [if_neg k0]
  by_cases k1:e.kind=1#8
  ·rw [k1]
   cases decide ((e.user.size:Int)≤1024)<;>cases decide ((e.value.size:Int)≤65536)<;>cases decide (e.seq.toNat≤72057594037927935)<;>cases (e.value.toList == [])<;>rfl
  ·have h1:¬ e.kind.toNat=0:=fun q=>k0 (BitVec.eq_of_toNat_eq (by rw [q]; rfl))
   have h2:¬ e.kind.toNat=1:=fun q=>k1 (BitVec.eq_of_toNat_eq (by rw [q]; rfl))
   rw [decide_eq_false (p:=(e.kind.toNat:Int)≤1) (by omega),decide_eq_false k1]
   simp
theorem aQJ {l:List Ent} {k:Nat} {x y:Ent} (hk:1≤k) (h:∀ j,j+1<k→dQ (l.getD j Ent.zero) (l.getD (j+1) Ent.zero)=true) (hx:l[k-1]? = some x) (hy:l[k]? = some y) (c:dQ x y=true):∀ j,j+1<k+1→dQ (l.getD j Ent.zero) (l.getD (j+1) Ent.zero)=true:=fun j hj=>by
 by_cases e:j+1=k
 ·have e2:j=k-1:=by omega
  subst e2
  rw [e,kJ hx,kJ hy]; exact c
 ·exact h j (by omega)
theorem aQI {l:List Ent} {k:Nat} {x y:Ent} (hk:1≤k) (hx:l[k-1]? = some x) (hy:l[k]? = some y) (c:dQ x y=false):cZ l=false:=by
 have hlt:k<l.length:=(List.getElem?_eq_some_iff.1 hy).1
 refine aIJ (i:=k-1) (by omega) ?_
 rw [show k-1+1=k by omega,kJ hx,kJ hy]; exact c
section
variable {a b:ByteArray} {k:Nat}
theorem aQK (hk:k≤a.size∧k≤b.size) (hj:∀ j,j<k→(yb a).getD j 0=(yb b).getD j 0) (c:((decide ((k:Int)<(a.size:Int))&&decide ((k:Int)<(b.size:Int)))&&((((yb a).getD k 0).toNat:Int) == (((yb b).getD k 0).toNat:Int)))=false):dV (yb a) (yb b)=k:=by
 refine yJ (by rw [bP]; omega) (by rw [bP]; omega) hj ?_
 rw [bP,bP]
 rw [Bool.and_eq_false_iff,Bool.and_eq_false_iff,decide_eq_false_iff_not,decide_eq_false_iff_not,beq_eq_false_iff_ne] at c
 rcases c with (c | c) | c
 ·exact .inl (by omega)
 ·exact .inr (.inl (by omega))
 exact .inr (.inr fun q=>c (by rw [q]))
theorem aQL (hk:k≤a.size∧k≤b.size) (hj:∀ j,j<k→(yb a).getD j 0=(yb b).getD j 0) (c:((decide ((k:Int)<(a.size:Int))&&decide ((k:Int)<(b.size:Int)))&&((((yb a).getD k 0).toNat:Int) == (((yb b).getD k 0).toNat:Int)))=false):mC [.int .i64 (k:Int)]=.int .i64 (dV (yb a) (yb b):Int):=by
 rw [aQK hk hj c]; rfl
end
theorem aLX (l:List Ent):l.any (fun e => !bT e) = !(l.all bT):=by
 induction l with
 | nil=>rfl
 | cons e l ih=>rw [List.any_cons,List.all_cons,ih,Bool.not_and]
theorem aIY {l:List Ent} {every:Int}:(decide (every<1)||decide (every > 1024) || !cZ l||l.any (fun e => !bT e))=(decide (every<1)||decide (every > 1024) || !(l.all bT&&cZ l)):=by
 rw [aLX]
 cases cZ l<;>cases l.all bT<;>cases decide (every<1)<;>cases decide (every > 1024)<;>rfl
theorem aLa {l:List Ent} {k:Nat} {x:Ent} (h:∀ j y,j<k→l[j]? = some y→bT y=true) (hx:l[k]? = some x) (c:bT x=true):∀ j y,j<k+1→l[j]? = some y→bT y=true:=fun j y hj hy=>by
 by_cases e:j=k
 ·subst e; rw [hx] at hy; cases hy; exact c
 ·exact h j y (by omega) hy
theorem aLb {l:List Ent} {k:Nat} (h:∀ j y,j<k→l[j]? = some y→bT y=true) (hk:l.length≤k):l.all bT=true:=by
 rw [List.all_eq_true]
 intro e he
 obtain ⟨i,hi,rfl⟩:=List.getElem_of_mem he
 exact h i _ (by omega) (List.getElem?_eq_getElem hi)
theorem aLZ {l:List Ent} {k:Nat} {x:Ent} (hx:l[k]? = some x) (c:bT x=false):l.all bT=false:=by
 rw [List.all_eq_false]
 exact ⟨x,List.mem_of_getElem? hx,by rw [c]; simp⟩
section
variable {last:List Y} {e:Ent} {O N1 L1 N2 L2 N3 L3 L4 L5:List Y}
theorem aBN {k:Nat} {anew:Bool} (hu:e.user.size≤10000000) (hv:e.value.size≤10000000) (hk:k=iQ last (bZ e) anew) (n1:N1=bL (BitVec.ofInt 64 (k:Int)).toNat) (h1:L1=O++N1) (n2:N2=bL (BitVec.ofInt 64 (((aN (bZ e)).size:Int)-(k:Int))).toNat) (h2:L2=L1++N2)
  (n3:N3=bL (BitVec.ofInt 64 (e.value.size:Int)).toNat) (h3:L3=L2++N3) (h4:L4=L3++yb (aN ((yb (aN (bZ e))).drop k))) (h5:L5=L4++yb e.value):L5=O++nZ last anew e :=
 tT hu hv hk (L1:=N1) (L2:=N1++N2) (L3:=N1++N2++N3) (by rw [List.nil_append]; exact n1) (by rw [← n2]) (by rw [← n3]) (L4:=O++(N1++N2++N3)) rfl (L5:=L4) (by rw [h4,h3,h2,h1]; simp only [List.append_assoc]) h5
end
theorem aQB {n l:Nat} {A B C:List Y} {x y:Int} (h1:x=n) (h2:y=l) (b1:n<18446744073709551616) (b2:l<18446744073709551616) (e1:A=bL (BitVec.ofInt 64 x).toNat) (e2:B=bL (BitVec.ofInt 64 y).toNat) (e3:C=A++B):C=bL n++bL l:=by
 subst h1; subst h2
 rw [e3,e1,e2,uK b1,uK b2]
theorem aQM (n:Nat):BitVec.ofInt 64 (n:Int)+1#64=BitVec.ofInt 64 ((n+1:Nat):Int):=by
 apply BitVec.eq_of_toNat_eq
 rw [BitVec.toNat_add,BitVec.ofInt_natCast,BitVec.ofInt_natCast]
 simp only [BitVec.toNat_ofNat]
 omega
theorem aFr {n:Nat} {l:List Ent} {O P L1 F L3:List Y} {rs:Nat} (eO:O=dX n l l.length) (eP:P=lT n l l.length) (er:rs=jV n l.length) (h1:L1=O++P) (h2:F=cO (BitVec.ofInt 64 (rs:Int)) 4) (h3:L3=L1++F):L3=fU n l:=by
 rw [h3,h2,h1,eO,eP,er]; rfl
theorem aFu {every:Int} (h1:1≤every) (h2:every≤1024):fP [] every=(fU every.toNat [],0):=by
 refine aAm (fun q=>?_) (fun q=>?_)
 ·rcases q with q | q | q | ⟨e,he,_⟩
  ·omega
  ·omega
  ·rw [aIK (k:=0) (by simp) (fun i hi=>absurd hi (Nat.not_lt_zero _))] at q; cases q
  cases he
 rcases q with ⟨k,hk,_⟩ | q
 ·exact absurd hk (Nat.not_lt_zero _)
 have h3:=yC (every:=every.toNat) (l:=[]) (by omega) (by simp) (by simp [dL])
 simp only [dL,List.length_nil] at h3; omega
theorem aON {every er:Int} {L:List Y} (h:(L,er)=fP [] every):(er=0∧1≤every∧every≤1024)∨(er=1∧(every<1∨1024<every)):=by
 by_cases h1:1≤every
 ·by_cases h2:every≤1024
  ·rw [aFu h1 h2] at h; cases h; exact .inl ⟨rfl,h1,h2⟩
  ·rw [aAl (.inr (.inl (by omega)))] at h; cases h; exact .inr ⟨rfl,.inr (by omega)⟩
 ·rw [aAl (.inl (by omega))] at h; cases h; exact .inr ⟨rfl,.inl (by omega)⟩
theorem sS {L:List Y} {n:BitVec 64} (e:L=bL n.toNat):L.length≤10:=by rw [e]; exact jA n.isLt
structure CutS (least:Int) (l:List Ent) (fQ:List (List Ent)) (now:List Ent) (n:Int) (i:Nat):Prop where
 eq:cY least l=fQ++cY least (now++l.drop i)
 n:n=gA now now.length
 lt:∀ j,j<now.length→gA now (j+1)<least
namespace CutS
variable {least n n':Int} {l now:List Ent} {fQ:List (List Ent)} {i:Nat} {e:Ent}
end CutS
section
variable {root:Nat→Y} {h:Hd} {l:List Ent} {blk every bits e:Int} {k:Nat} {x:Ent}
end
section
variable {root:Nat→Y} {h:Hd} {l:List Ent} {blk every bits:Int} {k:Nat}
end
section
variable {t:Tab} {k:Nat} {I S X W L1 L2 O:List Y}
end
section
variable {root:Nat→Y} {h:Hd} {l:List Ent} {blk every bits:Int}
end
theorem aOK (x:BitVec 64):(x%256#64).setWidth 8=x.setWidth 8:=by
 apply BitVec.eq_of_toNat_eq
 rw [BitVec.toNat_setWidth,BitVec.toNat_setWidth,BitVec.toNat_umod]
 show x.toNat%256%2^8=x.toNat%2^8
 omega
theorem aIF {n:Nat} (h:n<18446744073709551616) (r:List Y):cR ⟨bL n++r,0⟩=(n,⟨r,0⟩):=by
 unfold cR
 rw [if_neg (by simp)]
 dsimp only
 rw [aHU h]
 simp
section
variable {xs L L1 L2:List Y} {n1 n2:Nat} {e1 e2 er:Int}
theorem aPj (h1:cR ⟨xs,0⟩=(n1,⟨L1,e1⟩)) (h2:cR ⟨L1,e1⟩=(n2,⟨L2,e2⟩)) (hne:¬ n2=0) (hb:(L,er)=fP [] (n1:Int)) (h0:er=0):¬ L=xs:=by
 intro hx
 rcases aON hb with ⟨_,h3,h4⟩ | ⟨h5,_⟩
 ·rw [aFu h3 h4] at hb
  simp only [Prod.mk.injEq] at hb
  have e:xs=bL n1++(bL 0++cO (BitVec.ofInt 64 ((0:Nat):Int)) 4):=by
   rw [← hx,hb.1,Int.toNat_natCast]
   show (bL n1++bL 0)++[]++cO (BitVec.ofInt 64 ((0:Nat):Int)) 4=_
   rw [List.append_nil,List.append_assoc]
  rw [e,aIF (by omega)] at h1
  simp only [Prod.mk.injEq,Rd'.mk.injEq] at h1
  rw [← h1.2.1,←h1.2.2,aIF (by omega)] at h2
  simp only [Prod.mk.injEq] at h2
  exact hne h2.1.symm
 ·omega
theorem aPt (h1:cR ⟨xs,0⟩=(n1,⟨L1,0⟩)):L1.length+1≤xs.length:=by
 unfold cR at h1
 rw [if_neg (by simp)] at h1
 simp only [Prod.mk.injEq,Rd'.mk.injEq] at h1
 obtain ⟨_,h2,h3⟩:=h1
 obtain ⟨v,j,e,hp⟩ : ∃ v j e,dB xs=(v,j,e):=⟨_,_,_,rfl⟩
 rw [hp] at h2 h3
 simp only at h2 h3
 subst h3
 obtain ⟨_,_,h6,h7⟩:=aDS hp
 have:=uL v
 rw [← h2,List.length_drop]; omega
theorem aPs (h:cR ⟨xs,e1⟩=(n1,⟨L1,e2⟩)) (he:¬ e1=0):¬ e2=0:=by
 unfold cR at h
 rw [if_pos he] at h
 simp only [Prod.mk.injEq,Rd'.mk.injEq] at h
 rw [← h.2.2]; exact he
end
theorem aGM {α:Type} {B:List α} {I k:Nat}:(B.drop I).drop k=B.drop (I+k):=by rw [List.drop_drop]
theorem aP6 {last:ByteArray} {B R:List Y} {I n1 n2:Nat} (eR:R=(B.drop I).take n2):yb (aN (yb (aN ((yb last).take n1))++yb (aN R)))=(yb last).take n1++(B.drop I).take n2:=by
 rw [iD,iD,iD,eR]
section
variable {f b:List Y} {s:ByteArray} {k m n:Nat} {p:W}
end
section
variable {s:ByteArray} {E:Ent} {K:BitVec 64}
theorem aQP (eK:K=bU (yb (aN ((yb s).drop (s.size-8)))) 8) (eE:E=⟨aN ((yb s).take (s.size-8)),K / 256#64,(K%256#64).setWidth 8,ByteArray.empty⟩):E=oA (yb s):=by
 rw [eE,aGK,aOK,eK]; exact aEF rfl
theorem aQO (h:0≤(s.size:Int)-8) (eE:E=oA (yb s)) (c:bT E=false):fF (yb s)=(Ent.zero,80):=aJK (by omega) (by rw [← eE]; exact c)
theorem aQQ (h:0≤(s.size:Int)-8) (eE:E=oA (yb s)) (c:bT E=true):fF (yb s)=(E,0):=by rw [eE] at c ⊢; exact aJL (by omega) c
end
section
variable {last key:ByteArray} {xs B V:List Y} {n1 n2 n3 J I1 I2 I3:Nat} {e1 e2 e3:Int}
theorem aPy (h1:cR ⟨B.drop J,0⟩=(n1,⟨B.drop I1,e1⟩)) (h2:cR ⟨B.drop I1,e1⟩=(n2,⟨B.drop I2,e2⟩)) (h3:cR ⟨B.drop I2,e2⟩=(n3,⟨B.drop I3,e3⟩)) (c:((¬ e3=0∨last.size<n1)∨B.length-I3<n2)∨B.length-I3-n2<n3):kP (yb last) (B.drop J)=none:=by
 rw [zX h1 h2 h3,if_neg]
 rw [List.length_drop]
 rintro ⟨q1,q2,q3,q4⟩
 rcases c with ((c | c) | c) | c
 ·exact c q1
 ·omega
 ·omega
 ·omega
theorem aPx (h1:cR ⟨B.drop J,0⟩=(n1,⟨B.drop I1,e1⟩)) (h2:cR ⟨B.drop I1,e1⟩=(n2,⟨B.drop I2,e2⟩)) (h3:cR ⟨B.drop I2,e2⟩=(n3,⟨B.drop I3,0⟩)) (c1:n1≤last.size) (c2:n2≤B.length-I3) (c3:n3≤B.length-I3-n2) (eky:yb key=(yb last).take n1++(B.drop I3).take n2) (eV:V=(B.drop (I3+n2)).take n3) :
  kP (yb last) (B.drop J)=if (fF (yb key)).2=0 then some ({ (fF (yb key)).1 with value:=aN V },yb key,B.drop (I3+n2+n3)) else none:=by
 rw [zX h1 h2 h3,if_pos ⟨rfl,c1,by rw [List.length_drop]; exact c2,by rw [List.length_drop]; exact c3⟩,←eky,aGM,aGM,eV]
end
theorem aPr {xs L1:List Y} {e1 e2:Int} {y:Y} (h:iM ⟨xs,e1⟩=(y,⟨L1,e2⟩)) (he:e2=0):e1=0:=by
 by_cases q:e1=0
 ·exact q
 ·rw [aDg q] at h
  simp only [Prod.mk.injEq,Rd'.mk.injEq] at h
  rw [h.2.2]; exact he
theorem aPq {B:List Y} {I I':Nat} {e e':Int} {y:Y} (h:iM ⟨B.drop I,e⟩=(y,⟨B.drop I',e'⟩)) (h1:I'≤B.length) (h2:I≤B.length):I≤I':=by
 have:=zL h
 simp only [List.length_drop] at this; omega
theorem aBO {B M:List Y} {I I' most:Nat} {e e':Int} (h:iB most ⟨B.drop I,e⟩=(M,⟨B.drop I',e'⟩)) (h1:I'≤B.length) (h2:I≤B.length):I≤I':=by
 have:=aDi h
 simp only [List.length_drop] at this; omega
theorem wR {B:List Y} {I I' n:Nat} {e e':Int} (h:cR ⟨B.drop I,e⟩=(n,⟨B.drop I',e'⟩)) (h1:I'≤B.length) (h2:I≤B.length) (he:e'=0):I+1≤I':=by
 by_cases q:e=0
 ·subst q; subst he
  have:=aPt h
  simp only [List.length_drop] at this; omega
 ·exact absurd he (aPs h q)
def aAa (O:Option (List RowT)) (bs:List ByteArray) (zs:List Nat) (ds:List Dg) (ok:Bool):Prop :=
 (ok=true∧∃ rows,O=some rows∧1≤rows.length∧bs=(rows.take (rows.length-1)).map (fun x=>aN x.bound)∧zs=rows.map (·.bytes.length)∧ds=rows.map (·.leaf))∨(ok=false∧O=none)
def vK (O:Option (List RowT)) (n k:Nat) (acc:List RowT) (A R:List Y) (e:Int):Prop:=(e=0∧O=cS (n+1-k) acc A R)∨(¬ e=0∧O=none)
section
variable {O:Option (List RowT)} {n k:Nat} {acc:List RowT} {A R R' xs:List Y} {e e':Int} {size:Nat} {d:Dg} {bd rt:List Y}
theorem aNj (hN:cR ⟨xs,0⟩=(n,⟨R,e⟩)) (hn:¬ n=0) (hO:O=(cT fun n r=>if 0<n then cS (n+1) [] A r else none) xs):vK O n 0 [] A R e:=by
 subst hO
 rcases (xX (b:=xs) (k:=cT fun n r=>if 0<n then cS (n+1) [] A r else none)).numE hN with ⟨h1,_,h3⟩ | ⟨h1,h2⟩
 ·simp only at h1 h3
  rw [if_pos (by omega)] at h3
  exact .inl ⟨h1,h3⟩
 ·rcases h2 with h2 | h2
  ·cases h2
  ·exact .inr ⟨h2,h1⟩
theorem aNi (hN:cR ⟨xs,0⟩=(n,⟨R,e⟩)) (hn:n=0) (hO:O=(cT fun n r=>if 0<n then cS (n+1) [] A r else none) xs):O=none:=by
 subst hO
 rcases (xX (b:=xs) (k:=cT fun n r=>if 0<n then cS (n+1) [] A r else none)).numE hN with ⟨h1,_,h3⟩ | ⟨h1,h2⟩
 ·simp only at h1 h3
  rw [if_neg (by omega)] at h3
  exact h3
 ·exact h1
theorem wD (h:vK O n k acc A R e) (he:e=0) (hk:k<n):Tk O ⟨R,0⟩ false (pH 1024 fun bd=>cT fun size=>iL fV 32 fun xs=>mZ (n-k) acc A bd size (fun i=>xs.getD i 0)):=by
 rcases h with ⟨_,h⟩ | ⟨h,_⟩
 ·exact aFh h hk
 ·exact absurd he h
theorem aDA (h:vK O n k acc A R e) (he:e=0) (hk:¬ k<n) (hk2:k≤n):Tk O ⟨R,0⟩ false (cT fun size=>iL fV 32 fun xs=>mZ (n-k) acc A [] size (fun i=>xs.getD i 0)):=by
 rcases h with ⟨_,h⟩ | ⟨h,_⟩
 ·exact aFg h hk hk2
 ·exact absurd he h
theorem aDB {s:Rd'} (h:Tk O s false (iL fV 32 fun xs=>mZ (n-k) acc A bd size (fun i=>xs.getD i 0))) (hs:¬ size≤A.length):O=none:=by
 have key:∀ (m:Nat) (ys:List Y) (r:List Y),(iL fV m fun xs=>mZ (n-k) acc A bd size (fun i=>(ys++xs).getD i 0)) r=none:=by
  intro m
  induction m with
  | zero=>intro ys r; show mZ _ _ _ _ _ _ r=none; unfold mZ; rw [if_neg hs]
  | succ m ih =>
   intro ys r
   show fV _ r=none
   unfold fV
   split
   ·rfl
   ·have:=ih (ys++[r.getD 0 0]) (r.drop 1)
    simp only [List.append_assoc,List.singleton_append] at this
    exact this
 rcases h with ⟨_,_,h⟩ | ⟨h,_⟩
 ·rw [h]
  have:=key 32 [] s.rest
  simp only [List.nil_append] at this
  exact this
 ·exact h
theorem wC {s:Rd'} {f:Nat→Y} (hf:∀ i,f i=rt.getD i 0) (h:Tk O s false (mZ (n-k) acc A bd size (fun i=>rt.getD i 0))) (hs:size≤A.length):vK O n (k+1) (acc++[⟨bd,A.take size,f⟩]) (A.drop size) s.rest s.bad:=by
 obtain ⟨h1,h2⟩:=aCW hf h
 by_cases c:s.bad=0
 ·exact .inl ⟨c,h1 ⟨c,hs⟩⟩
 ·exact .inr ⟨c,h2 (fun q=>c q.1)⟩
theorem aNh {z:Int} {bs:List ByteArray} {zs:List Nat} {ds:List Dg} (h:vK O n k acc A R e) (hk:¬ (k≤n∧e=0)) (hk2:k≤n+1) (hl:acc.length=k) (hb:bs=(acc.take n).map (fun x=>aN x.bound)) (hz:zs=acc.map (·.bytes.length)) (hd:ds=acc.map (·.leaf)) (hA:z=(A.length:Int)) :
  aAa O bs zs ds ((oX R e == 0)&&(z == 0)):=by
 rcases h with ⟨h1,h2⟩ | ⟨h1,h2⟩
 ·have hkn:k=n+1:=by
   have:¬ k≤n:=fun q=>hk ⟨q,h1⟩
   omega
  rw [hkn,Nat.sub_self] at h2
  subst h1
  by_cases q:R=[]
  ·subst q
   by_cases q2:A=[]
   ·subst q2
    refine .inl ⟨?_,acc,by rw [h2]; exact aDz,by omega,?_,hz,hd⟩
    ·rw [hA]; rfl
    rw [hb,hl,hkn]; rfl
   refine .inr ⟨?_,by rw [h2]; exact aBU (fun q=>q2 q.2)⟩
   have:¬ z=0:=fun q=>q2 (List.eq_nil_of_length_eq_zero (by omega))
   rw [Bool.and_eq_false_iff]; exact .inr (beq_eq_false_iff_ne.2 this)
  refine .inr ⟨?_,by rw [h2]; exact aBU (fun q2=>q q2.1)⟩
  rw [aGP q]; rfl
 refine .inr ⟨?_,h2⟩
 have:oX R e=e:=by unfold oX; rw [if_neg (fun q=>h1 q.1)]
 rw [this,Bool.and_eq_false_iff]; exact .inl (beq_eq_false_iff_ne.2 h1)
end
def aAb (o:Option (List RowT×List Y)) (qs:List (List Y)) (bs:List ByteArray) (zs:List Nat) (ds:List Dg) (er:Int):Prop :=
 (er=0∧∃ rows ix,o=some (rows,ix)∧2≤rows.length∧qs=rows.map (·.bytes)++[ix]∧bs=(rows.take (rows.length-1)).map (fun x=>aN x.bound)∧zs=rows.map (·.bytes.length)∧ds=rows.map (·.leaf))∨(er=170∧o=none∧qs=[])
def WhR (o:Option (List Y)) (L:List Y) (ok:Bool):Prop:=(ok=true∧o=some L)∨(ok=false∧o=none∧L=[])
section
variable {root:Nat→Y} {hd:Hd} {m:Meta} {b ix y L:List Y} {rows:List RowT} {x:RowT} {qs:List (Sh×List Y)} {p:Sh×List Y} {i k n:Nat} {d:Dg} {ds:List Dg} {l acc:List Ent} {f e:Int} {ok is:Bool} {o:Option (List Y)} {X:Option (List Ent)} {user:ByteArray}
theorem WhR.len (h:WhR (dS root hd x i) L ok):L.length≤x.bytes.length:=by
 rcases h with ⟨_,h⟩ | ⟨_,_,rfl⟩
 ·exact wZ h
 ·exact Nat.zero_le _
theorem aSN (c:¬ yl 32 (dH x.bytes)=yl 32 x.leaf):WhR (dS root hd x i) [] false:=.inr ⟨rfl,by unfold dS; rw [if_neg c],rfl⟩
theorem aSO (c:yl 32 (dH x.bytes)=yl 32 x.leaf) (h:OpenR (gV root hd i x.bytes) L e):WhR (dS root hd x i) L (e == 0):=by
 unfold dS; rw [if_pos c]
 rcases h with ⟨h1,h2⟩ | ⟨h1,h2,h3⟩
 ·exact .inl ⟨by rw [h2]; rfl,h1⟩
 ·exact .inr ⟨by rw [h3]; rfl,h1,h2⟩
theorem aHm (hq:qs.map (·.2)=rows.map (·.bytes)++[ix]) (hx:rows[i]? = some x) (hp:qs[i]? = some p):p.2=x.bytes:=by
 have h:=congrArg (fun z=>z[i]?) hq
 have hi:=(List.getElem?_eq_some_iff.1 hx).1
 simp only [List.getElem?_map,hp,Option.map_some] at h
 rw [List.getElem?_append_left (by rw [List.length_map]; exact hi),List.getElem?_map,hx] at h
 exact Option.some.inj h
theorem aG8 (hd':ds=rows.map (·.leaf)) (hx:rows[i]? = some x) (h:ds[i]? = some d):d=x.leaf:=by
 rw [hd',List.getElem?_map,hx] at h
 exact (Option.some.inj h).symm
theorem aDu (hx:rows[i]? = some x):rows.getD i gG=x:=by rw [List.getD_eq_getElem?_getD,hx]; rfl
theorem aM5 (hx:rows[i]? = some x) (h:WhR (dS root hd x (2+i)) y ok) (hr:(l,f)=gM y):hY root hd rows i=if (ok&&(f == 0))=true then some l else none:=by
 unfold hY
 rw [aDu hx]
 rcases h with ⟨h1,h2⟩ | ⟨h1,h2,_⟩
 ·rw [h2,h1,Option.bind_some,←hr]
  by_cases q:f=0
  ·rw [if_pos q,if_pos (by rw [q]; rfl)]
  ·rw [if_neg q,if_neg (by simpa using q)]
 ·rw [h2,h1]; rfl
theorem aPp (hr:(l,f)=gM y):l.length≤y.length:=by
 unfold gM at hr
 split at hr
 ·rename_i l' hp
  have:gM y=(l',0):=by unfold gM; rw [hp]
  simp only [Prod.mk.injEq] at hr
  rw [hr.1]; exact aDj this
 ·simp only [Prod.mk.injEq] at hr
  rw [hr.1]; exact Nat.zero_le _
def AlS (root:Nat→Y) (m:Meta) (rows:List RowT) (X:Option (List Ent)) (n k:Nat) (acc:List Ent) (ok:Bool):Prop :=
 (ok=true∧X=(kY root (bH m) rows (n-k) k acc).bind (pV m))∨(ok=false∧X=none)
theorem aJs (hB:dD root m b=some (rows,ix)) (hl:rows.length=n+1) (hx:rows[n]? = some x) (h:WhR (dS root (bH m) x 1) L ok):AlS root m rows (kB root m b) n 0 [] ok:=by
 have e:rows.getD (rows.length-1) gG=x:=by rw [hl]; exact aDu hx
 rcases h with ⟨h1,h2⟩ | ⟨h1,h2,_⟩
 ·refine .inl ⟨h1,?_⟩
  rw [aFL hB (by rw [e]; exact h2),hl]; rfl
 exact .inr ⟨h1,aFN hB (by rw [e]; exact h2)⟩
theorem AlS.step (h0:AlS root m rows X n k acc ok) (hk:k<n) (ho:ok=true) (hx:rows[k]? = some x) (h:WhR (dS root (bH m) x (2+k)) y is) (hr:(l,f)=gM y):AlS root m rows X n (k+1) (acc++l) (is&&(f == 0)):=by
 rcases h0 with ⟨_,h0⟩ | ⟨h0,_⟩
 ·obtain ⟨h1,h2⟩:=aFT h0 hk
  have he:=aM5 hx h hr
  by_cases c:(is&&(f == 0))=true
  ·rw [if_pos c] at he; rw [c]; exact .inl ⟨rfl,h2 _ he⟩
  ·rw [if_neg c] at he; rw [Bool.not_eq_true] at c; rw [c]; exact .inr ⟨rfl,h1 he⟩
 ·rw [ho] at h0; cases h0
theorem AlS.fin (h0:AlS root m rows X n k acc ok) (hk:¬ (k<n∧ok=true)):(ok=true∧X=pV m acc)∨(ok=false∧X=none):=by
 rcases h0 with ⟨h1,h0⟩ | h0
 ·exact .inl ⟨h1,aFR h0 (by have:¬ k<n:=fun q=>hk ⟨q,h1⟩; omega)⟩
 ·exact .inr h0
end
section
variable {root:Nat→Y} {m:Meta} {xs y A ix:List Y} {h:Hd} {e:Int} {rows:List RowT} {bs:List ByteArray} {zs:List Nat} {ds:List Dg} {ok:Bool} {x:RowT} {k q z:Nat} {o:Option (List RowT×List Y)} {qs:List (List Y)} {er:Int}
theorem aH6:((((xs.length:Int) != m.size)||(e != 0)) || !decide (h=bH m)||decide ((xs.length:Int)<38)) = !((((xs.length:Int) == m.size)&&(e == 0))&&decide (h=bH m)&&decide ((xs.length:Int)≥38)):=by
 have h1:decide ((xs.length:Int)<38) = !decide ((xs.length:Int)≥38):=by
  by_cases q:(xs.length:Int)≥38
  ·rw [decide_eq_true q,decide_eq_false (by omega)]; rfl
  ·rw [decide_eq_false q,decide_eq_true (by omega)]; rfl
 rw [h1,bne,bne]
 cases ((xs.length:Int) == m.size)<;>cases (e == 0)<;>cases decide (h=bH m)<;>cases decide ((xs.length:Int)≥38)<;>rfl
theorem aPk (hT:gY xs=(h,e)) (c:((((xs.length:Int) != m.size)||(e != 0)) || !decide (h=bH m)||decide ((xs.length:Int)<38))=true):dD root m xs=none:=by
 rw [aH6,Bool.not_eq_true'] at c
 exact aFd hT c
theorem aPm (c:((((xs.length:Int) != m.size)||(e != 0)) || !decide (h=bH m)||decide ((xs.length:Int)<38))=false):(e=0∧h=bH m)∧(xs.length:Int)=m.size∧38≤xs.length:=by
 rw [aH6,Bool.not_eq_false'] at c
 exact aFi c
theorem aP5 (hl:38≤xs.length) (hk:k≤xs.length-38) (e:y=(xs.drop (xs.length-8-k)).take (xs.length-8-(xs.length-8-k))):y=(lV xs).drop (xs.length-38-k):=by
 rw [e]; unfold lV
 rw [List.drop_take,List.drop_drop]
 congr 1
 ·omega
 ·congr 1; omega
theorem aPl (hB:dD root m xs=(gV root (bH m) 0 ix).bind fun y=>((cT fun n r=>if 0<n then cS (n+1) [] A r else none) y).bind (kZ m ix)) (ho:gV root (bH m) 0 ix=some y) (hI:aAa ((cT fun n r=>if 0<n then cS (n+1) [] A r else none) y) bs zs ds ok) (hw:m.wf)
  (c:(!ok || !decide (yl 32 (dJ ([]++ds++[dH ix]))=yl 32 (fun i=>BitVec.ofInt 8 (m.root i))))=true):dD root m xs=none:=by
 rw [hB,ho,Option.bind_some]
 rcases hI with ⟨h1,rows,h2,_,_,_,h5⟩ | ⟨_,h2⟩
 ·rw [h2,Option.bind_some,kZ,if_neg]
  intro q
  rw [h1,Bool.not_true,Bool.false_or,Bool.not_eq_true'] at c
  refine of_decide_eq_false c (aDr hw ?_)
  rw [h5,List.nil_append]; exact q
 rw [h2]; rfl
theorem aPn (hB:dD root m xs=(gV root (bH m) 0 ix).bind fun y=>((cT fun n r=>if 0<n then cS (n+1) [] A r else none) y).bind (kZ m ix)) (ho:gV root (bH m) 0 ix=some y) (hI:aAa ((cT fun n r=>if 0<n then cS (n+1) [] A r else none) y) bs zs ds ok) (hw:m.wf)
  (c:(!ok || !decide (yl 32 (dJ ([]++ds++[dH ix]))=yl 32 (fun i=>BitVec.ofInt 8 (m.root i))))=false):∃ rows,dD root m xs=some (rows,ix)∧bs=(rows.take (rows.length-1)).map (fun x=>aN x.bound)∧zs=rows.map (·.bytes.length)∧ds=rows.map (·.leaf)∧(rows.map (·.bytes)).flatten=A:=by
 rw [Bool.or_eq_false_iff,Bool.not_eq_false',Bool.not_eq_false'] at c
 rcases hI with ⟨_,rows,h2,_,h3,h4,h5⟩ | ⟨h1,_⟩
 ·refine ⟨rows,?_,h3,h4,h5,?_⟩
  ·rw [hB,ho,Option.bind_some,h2,Option.bind_some,kZ,if_pos]
   have:=aIM hw (of_decide_eq_true c.2)
   rw [h5,List.nil_append] at this; exact this
  obtain ⟨n,r,_,_,h6⟩:=oG h2
  split at h6
  ·have:=aDw h6
   simpa using this
  cases h6
 rw [h1] at c; cases c.1
theorem aOq (hF:(rows.map (·.bytes)).flatten=A) (hA:A=(xs.drop 30).take q) (hl:30+q≤xs.length) (hx:rows[k]? = some x) :
  (xs.drop (30+((rows.take k).map (·.bytes)).flatten.length)).take x.bytes.length=x.bytes∧30+((rows.take k).map (·.bytes)).flatten.length+x.bytes.length≤xs.length:=by
 obtain ⟨hk,hx'⟩:=List.getElem?_eq_some_iff.1 hx
 have e0:rows=rows.take k++x :: rows.drop (k+1):=by
  conv=>lhs; rw [← List.take_append_drop k rows,List.drop_eq_getElem_cons hk,hx']
 have e1:(xs.drop 30).take q=((rows.take k).map (·.bytes)).flatten++(x.bytes++((rows.drop (k+1)).map (·.bytes)).flatten):=by
  rw [← hA,←hF]
  conv=>lhs; rw [e0]
  rw [List.map_append,List.flatten_append,List.map_cons,List.flatten_cons]
 generalize ((rows.take k).map (·.bytes)).flatten=P at e1 ⊢
 generalize ((rows.drop (k+1)).map (·.bytes)).flatten=R at e1
 have e2:=congrArg List.length e1
 rw [List.length_take,List.length_drop,List.length_append,List.length_append] at e2
 have e3:(xs.drop (30+P.length)).take (q-P.length)=x.bytes++R:=by
  have:=congrArg (List.drop P.length) e1
  rw [List.drop_left,List.drop_take,List.drop_drop] at this
  exact this
 refine ⟨?_,by omega⟩
 have:=congrArg (List.take x.bytes.length) e3
 rw [List.take_left,List.take_take,Nat.min_eq_left (by omega)] at this
 exact this
theorem aOr {P:List Y} (hP:P=((rows.take k).map (·.bytes)).flatten) (hF:(rows.map (·.bytes)).flatten=A) (hA:A=(xs.drop 30).take q) (hl:30+q≤xs.length) (hx:rows[k]? = some x) :
  (xs.drop (30+P.length)).take x.bytes.length=x.bytes∧30+P.length+x.bytes.length≤xs.length∧P++x.bytes=((rows.take (k+1)).map (·.bytes)).flatten:=by
 have:=aOq hF hA hl hx
 rw [← hP] at this
 refine ⟨this.1,this.2,?_⟩
 rw [hP,List.take_add_one,hx]
 simp
theorem aJq (hz:zs=rows.map (·.bytes.length)) (hx:rows[k]? = some x) (h:zs[k]? = some z):z=x.bytes.length:=by
 rw [hz,List.getElem?_map,hx] at h
 exact (Option.some.inj h).symm
theorem aO5 (h:aAb o qs bs zs ds er) (he:er=0):∃ rows ix,o=some (rows,ix)∧2≤rows.length∧qs=rows.map (·.bytes)++[ix]∧bs=(rows.take (rows.length-1)).map (fun x=>aN x.bound)∧zs=rows.map (·.bytes.length)∧ds=rows.map (·.leaf):=by
 rcases h with ⟨_,h⟩ | ⟨h,_⟩
 ·exact h
 ·omega
theorem aO2 (h:aAb o qs bs zs ds er) (he:¬ er=0):er=170∧o=none∧qs=[]:=by
 rcases h with ⟨h,_⟩ | h
 ·exact absurd h he
 ·exact h
theorem aIS:∀ {l:List RowT} {x:RowT},x∈l→x.bytes.length≤((l.map (·.bytes)).flatten).length
 | a :: l,x,h=>by
  rw [List.map_cons,List.flatten_cons,List.length_append]
  rcases List.mem_cons.1 h with rfl | h
  ·omega
  ·have:=aIS h; omega
theorem aO4 (hB:dD root m xs=some (rows,ix)):∀ x∈rows,x.bytes.length≤xs.length:=fun x hx=>by
 have b:=aAi hB
 obtain ⟨y,_,hp⟩:=b.opn
 obtain ⟨n,r,_,_,hp⟩:=oG hp
 split at hp
 ·have h1:=congrArg List.length (aDw hp)
  simp only [List.map_nil,List.flatten_nil,List.nil_append,List.length_take,aBP b.long] at h1
  have h2:=aIS hx
  omega
 ·cases hp
end
section
variable {m:Meta} {acc:List Ent} {ok:Bool} {X:Option (List Ent)}
theorem aH1:(((!ok || !cZ acc)||((acc.length:Int) != m.count))||(decide ((acc.length:Int) > 0)&&(((acc.getD 0 Ent.zero).user.toList != m.min.toList)||((acc.getD (acc.length-1) Ent.zero).user.toList != m.max.toList)))) =
  !(ok&&(cZ acc&&((acc.length:Int) == m.count)&&(((acc.length:Int) == 0)||(((acc.getD 0 Ent.zero).user.toList == m.min.toList)&&((acc.getD (acc.length-1) Ent.zero).user.toList == m.max.toList))))):=by
 have h1:decide ((acc.length:Int) > 0) = !((acc.length:Int) == 0):=by
  by_cases q:acc.length=0
  ·rw [q]; rfl
  ·rw [decide_eq_true (by omega),beq_eq_false_iff_ne.2 (by omega)]; rfl
 rw [h1,bne,bne,bne]
 cases ok<;>cases cZ acc<;>cases ((acc.length:Int) == m.count)<;>cases ((acc.length:Int) == 0)<;>cases ((acc.getD 0 Ent.zero).user.toList == m.min.toList)<;>cases ((acc.getD (acc.length-1) Ent.zero).user.toList == m.max.toList)<;>rfl
theorem aPh (h:(ok=true∧X=pV m acc)∨(ok=false∧X=none)) (c:(((!ok || !cZ acc)||((acc.length:Int) != m.count))||(decide ((acc.length:Int) > 0)&&(((acc.getD 0 Ent.zero).user.toList != m.min.toList)||((acc.getD (acc.length-1) Ent.zero).user.toList != m.max.toList))))=true):X=none:=by
 rw [aH1,Bool.not_eq_true'] at c
 rcases h with ⟨h1,h2⟩ | ⟨_,h2⟩
 ·rw [h1,Bool.true_and] at c
  exact aFS h2 c
 ·exact h2
theorem aPi (h:(ok=true∧X=pV m acc)∨(ok=false∧X=none)) (c:(((!ok || !cZ acc)||((acc.length:Int) != m.count))||(decide ((acc.length:Int) > 0)&&(((acc.getD 0 Ent.zero).user.toList != m.min.toList)||((acc.getD (acc.length-1) Ent.zero).user.toList != m.max.toList))))=false):X=some acc:=by
 rw [aH1,Bool.not_eq_false',Bool.and_eq_true] at c
 rcases h with ⟨h1,h2⟩ | ⟨h1,_⟩
 ·exact aFU h2 c.2
 ·rw [h1] at c; cases c.1
end
theorem aPw {y:List Y} {l:List Ent} (h:gM y=(l,0)):∀ e∈l,bT e=true:=by
 unfold gM at h
 split at h
 ·rename_i l' hp
  simp only [Prod.mk.injEq,and_true] at h
  subst h
  obtain ⟨a,r,_,_,hp⟩:=oG hp
  obtain ⟨n,r2,_,_,hp⟩:=oG hp
  split at hp
  ·cases he:gF n [] [] r2 with
   | none=>rw [he] at hp; cases hp
   | some l2 =>
    rw [he,Option.bind_some] at hp
    split at hp
    ·rename_i hb
     simp only [Option.some.injEq] at hp
     subst hp
     intro e hm
     cases q:bT e with
     | true=>rfl
     | false =>
      rw [aAl (.inr (.inr (.inr ⟨e,hm,q⟩)))] at hb
      simp only [Prod.mk.injEq] at hb
      exact absurd hb.2 (by decide)
    ·cases hp
  ·cases hp
 ·simp only [Prod.mk.injEq] at h; exact absurd h.2 (by decide)
section
variable {root:Nat→Y} {hd:Hd} {m:Meta} {b:List Y} {rows:List RowT} {i:Nat} {l:List Ent} {e:Ent} {user:ByteArray} {seq:BitVec 64}
theorem aM9 (h:hY root hd rows i=some l):∀ e∈l,bT e=true:=by
 obtain ⟨y,_,h2⟩:=aAx h
 exact aPw h2
theorem aFO:∀ (n i:Nat) (acc l:List Ent),kY root hd rows n i acc=some l→(∀ e∈acc,bT e=true)→∀ e∈l,bT e=true
 | 0,i,acc,l,h,ha=>by rw [kY] at h; cases h; exact ha
 | n+1,i,acc,l,h,ha=>by
  rw [kY] at h
  cases hl:hY root hd rows i with
  | none=>rw [hl] at h; cases h
  | some x =>
   rw [hl,Option.bind_some] at h
   exact aFO n (i+1) _ l h fun e he=>(List.mem_append.1 he).elim (ha e) (aM9 hl e)
theorem aLW (h:kB root m b=some l):∀ e∈l,bT e=true:=by
 obtain ⟨rows,ix,f,_,_,hg,_⟩:=aLY h
 exact aFO _ _ _ _ hg fun e he=>by cases he
theorem aP4 (h:bT e=true):e.user.size≤1000000∧e.value.size≤1000000:=by
 simp only [bT,Bool.and_eq_true,decide_eq_true_eq] at h
 omega
theorem aFP {er:Int} (h:xF (kB root m b) l er):∀ e∈l,e.user.size≤1000000∧e.value.size≤1000000:=by
 rcases h with ⟨h,_⟩ | ⟨_,rfl,_⟩
 ·exact fun e he=>aP4 (aLW h e he)
 ·intro e he; cases he
end
theorem aLV {o:Option (List Ent)} {l l':List Ent} {er er':Int} (h:xF o l er) (h':xF o l' er'):l=l'∧er=er':=by
 rcases h with ⟨h1,h2⟩ | ⟨h1,h2,h3⟩<;>rcases h' with ⟨g1,g2⟩ | ⟨g1,g2,g3⟩
 ·rw [h1] at g1; cases g1; exact ⟨rfl,by rw [h2,g2]⟩
 ·rw [h1] at g1; cases g1
 ·rw [h1] at g1; cases g1
 ·exact ⟨by rw [h2,g2],by rw [h3,g3]⟩
theorem aOs {o:Option (List (List Y))} {l l':List (List Y)} {er er':Int} (h:xW o l er) (h':xW o l' er'):l=l'∧er=er':=by
 rcases h with ⟨h1,h2⟩ | ⟨h1,h2,h3⟩<;>rcases h' with ⟨g1,g2⟩ | ⟨g1,g2,g3⟩
 ·rw [h1] at g1; cases g1; exact ⟨rfl,by rw [h2,g2]⟩
 ·rw [h1] at g1; cases g1
 ·rw [h1] at g1; cases g1
 ·exact ⟨by rw [h2,g2],by rw [h3,g3]⟩
theorem aO3 {root:Nat→Y} {m:Meta} {b:List Y} {qs:List (List Y)} {bs:List ByteArray} {zs:List Nat} {ds:List Dg} {er:Int} (h:aAb (dD root m b) qs bs zs ds er):xW (sU root m b) qs er:=by
 rcases h with ⟨h1,rows,ix,h2,_,h3,_⟩ | ⟨h1,h2,h3⟩
 ·exact .inl ⟨by rw [aHe h2,h3],h1⟩
 ·exact .inr ⟨aHf h2,h3,h1⟩
section
variable {o:Option (List Y)} {L:List Y} {ok:Bool} {root:Nat→Y} {hd:Hd} {rows:List RowT} {x:RowT} {k i:Nat} {y:List Y} {l:List Ent} {f:Int} {fo:Option Ent} {user:ByteArray} {bs:List ByteArray}
end
section
variable {a b:List (Sh×List Y)} {k:Nat} {p q:Sh×List Y}
theorem aQ4 (h:∀ j p q,j<k→a[j]? = some p→b[j]? = some q→p.2=q.2) (hp:a[k]? = some p) (hq:b[k]? = some q) (e:p.2=q.2):∀ j p q,j<k+1→a[j]? = some p→b[j]? = some q→p.2=q.2:=fun j p' q' hj h1 h2=>by
 by_cases c:j=k
 ·subst c; rw [hp] at h1; rw [hq] at h2; cases h1; cases h2; exact e
 ·exact h j p' q' (by omega) h1 h2
theorem aQ2 (h:¬ a.length=b.length):B (a.map (·.2)=b.map (·.2))=false:=qO fun q=>h (by simpa using congrArg List.length q)
theorem aQ3 (hp:a[k]? = some p) (hq:b[k]? = some q) (e:¬ p.2=q.2):B (a.map (·.2)=b.map (·.2))=false:=qO fun h=>by
 have:=congrArg (fun z=>z[k]?) h
 simp only [List.getElem?_map,hp,hq,Option.map_some] at this
 exact e (Option.some.inj this)
theorem aQ5 (hl:a.length=b.length) (hk:a.length≤k) (h:∀ j p q,j<k→a[j]? = some p→b[j]? = some q→p.2=q.2):B (a.map (·.2)=b.map (·.2))=true:=mF (by
 apply List.ext_getElem?
 intro j
 rw [List.getElem?_map,List.getElem?_map]
 by_cases c:j<a.length
 ·have c2:j<b.length:=by omega
  rw [List.getElem?_eq_getElem c,List.getElem?_eq_getElem c2]
  exact congrArg some (h j _ _ (by omega) (List.getElem?_eq_getElem c) (List.getElem?_eq_getElem c2))
 ·rw [List.getElem?_eq_none (by omega),List.getElem?_eq_none (by omega)])
end
section
variable {mc:Md} {P:Program} {n:Fm} {l:List Oper} {K:aK→PM→aG→Prop} {i:Nat} {σ:List Nat} {ρ:aK} {G:PM} {μ:aG}
variable {d t:Nat} {p:String} {af:Array Edge}
theorem lH {f:FuncId} {xs:List Operand} {tys:Array TypeId} {vs:List Value} {post:PM→aG→Value→Prop} {die:List PanicEntry→Prop} {dd:Option Nat} (ho:nth l i=some ⟨dd,.call { callee:=.value (.func f),args:=xs.toArray,argTypes:=tys },t,p,af,none⟩) (hf:aQ P f=true)
  (hv:∀ a,Ag n ρ a→true=true→xs.map a.eval=vs) (hk:Cp P f vs.toArray G [] post die) (hx:∀ ch G' ρ' μ',PM.le G G'→die ch→(∀ i,cJ ρ' i=cJ ρ i)→μ'.Perm μ→n.die ch ρ' G' μ')
  (h:∀ v G' μ',PM.le G G'→post G' μ' v→Wo false mc P n l K σ (cQ ρ dd true v) G' (μ'++μ)):Wo false mc P n l K (i :: σ) ρ G μ :=
 .callp (μ₁:=[]) rfl ho .no (.refl _) (fun a w ha=>sX hf (hv a ha rfl) _ _ _ _ _ w) hk hx h
theorem wH {f:FuncId} {xs:List Operand} {tys:Array TypeId} {vs:List Value} {μ₁ μ₂:aG} {post:PM→aG→Value→Prop} {die:List PanicEntry→Prop} {dd:Option Nat} (ho:nth l i=some ⟨dd,.call { callee:=.value (.func f),args:=xs.toArray,argTypes:=tys },t,p,af,none⟩) (hf:aQ P f=true)
  (hv:∀ a,Ag n ρ a→true=true→xs.map a.eval=vs) (hp:μ.Perm (μ₁++μ₂)) (hk:Cp P f vs.toArray G μ₁ post die) (hx:∀ ch G' ρ' μ',PM.le G G'→die ch→(∀ i,cJ ρ' i=cJ ρ i)→μ'.Perm μ₂→n.die ch ρ' G' μ')
  (h:∀ v G' μ',PM.le G G'→post G' μ' v→Wo false mc P n l K σ (cQ ρ dd true v) G' (μ'++μ₂)):Wo false mc P n l K (i :: σ) ρ G μ :=
 .callp rfl ho .no hp (fun a w ha=>sX hf (hv a ha rfl) _ _ _ _ _ w) hk hx h
theorem pnc {x:Operand} {T:TypeId} {v:Value} {dd:Option Nat} (ho:nth l i=some ⟨dd,.panic x,t,p,af,none⟩) (hx:ev ρ x=some (true,.iface T v)) (hd:∀ ρ' μ',(∀ i,cJ ρ' i=cJ ρ i)→μ'.Perm μ→n.die [{ v:=.iface T v,recovered:=false }] ρ' G μ'):Wo false mc P n l K (i :: σ) ρ G μ :=
 .pan rfl ho .no (fun a w ha=>by simp [execOp,ha.eval hx rfl,Instr.panic,goPanic]) hd
end
theorem aR8 {P:Program} {o:Oper} {a:Act} {next next':Act→World→Prop} {Q Q':Exit→Act→World→Prop} (h1:∀ a w,next a w→next' a w) (h2:∀ ch a w,Q (.panic ch) a w→Q' (.panic ch) a w) (h3:LetsOut Q→LetsOut Q') :
  ∀ r,o.upon P a next Q r→o.upon P a next' Q' r:=by
 intro r h
 unfold Oper.upon at h ⊢
 split at h
 ·exact h1 _ _ h
 ·exact h1 _ _ h
 ·exact h1 _ _ h
 ·refine h.mono fun e w' he=>?_
  cases e with
  | returned v=>exact h1 _ _ he
  | panicked ch=>exact h2 _ _ _ he
  | outgrown=>exact h3 he
 ·exact h.mono fun v w' he=>h1 _ _ he
 ·exact h2 _ _ _ h
 exact h.elim
theorem aBr {P:Program} {ops:Array Oper} {Q:Exit→Act→World→Prop} {σ2:List Nat}:∀ {σ1:List Nat} {a:Act} {w:World},wpOps P ops (Exit.then (wpOps P ops Q σ2) Q) σ1 a w→wpOps P ops Q (σ1++σ2) a w
 | [],a,w,h=>h
 | i :: σ1,a,w,h=>by
  simp only [wpOps,List.cons_append] at h ⊢
  cases ho:ops[i]? with
  | none=>simp only [ho] at h; exact aBr h
  | some o =>
   simp only [ho] at h
   dsimp only
   split at h
   ·rename_i hw
    rw [if_pos hw]
    rcases h with h | ⟨h,hl⟩
    ·exact .inl (aR8 (fun a w h=>aBr h) (fun ch a w h=>h) (fun h=>h) _ h)
    ·exact .inr ⟨h,hl⟩
   ·rename_i hw
    rw [if_neg hw]; exact aBr h
def Cx.dfr (X:Cx) (d:Deferred) (die1:List PanicEntry→aK→PM→aG→Prop)
  (ok1:∀ ch ρ G μ a w,die1 ch ρ G μ→Ag ⟨X.n.n,[d],die1⟩ ρ a→Tr X.G0 X.K0 X.w0 G μ w→Leaves X.P X.fn a.tmps (RR X.post X.die X.G0 X.K0 X.w0) a.defers (.panicking ch) w):Cx :=
 ⟨X.P,X.fn,⟨X.n.n,[d],die1⟩,X.G0,X.K0,X.w0,X.post,X.die,ok1⟩
theorem aAc {X Y:Cx} (h1:X.P=Y.P) (h2:X.fn=Y.fn) (h3:X.R=Y.R):∀ k,gZ X k=gZ Y k
 | []=>by simp only [gZ,h1,h2,h3]
 | .code c :: k=>by simp only [gZ,aAc h1 h2 h3 k,h1]
 | .blk id :: k=>by simp only [gZ,aAc h1 h2 h3 k]
 | .lp I :: k=>by simp only [gZ,aAc h1 h2 h3 k]
structure DefOp (P:Program) (n:Fm) (l:List Oper) (j:Nat) (d:Deferred) (ρ:aK):Prop where
 of:∃ o,nth l j=some o∧o.guard=none∧o.dst=none∧∀ a w,Ag n ρ a→(execOp a.eval o).run P w=.ok (.defer d) w
theorem Wk.defer {X:Cx} {k:List KI} {ρ:aK} {G:PM} {μ:aG} {id:Nat} {l:List Oper} (σ1:List Nat) (j:Nat) (d:Deferred) (die1:List PanicEntry→aK→PM→aG→Prop)
  (ok1:∀ ch ρ G μ a w,die1 ch ρ G μ→Ag ⟨X.n.n,[d],die1⟩ ρ a→Tr X.G0 X.K0 X.w0 G μ w→Leaves X.P X.fn a.tmps (RR X.post X.die X.G0 X.K0 X.w0) a.defers (.panicking ch) w)
  (hσ:List.range l.length=σ1++[j]) (hds:jI X.n l=true) (h0:X.n.ds=[])
  (h:Wo false ⟨false,false⟩ X.P X.n l (fun ρ G μ=>DefOp X.P X.n l j d ρ∧We (X.dfr d die1 ok1) .normal k ρ G μ) σ1 ρ G μ):Wk X (.region id l.toArray false) k ρ G μ:=by
 refine ⟨fun a w ha ht=>wp_region ?_⟩
 have hr:List.range l.toArray.size=σ1++[j]:=by simpa using hσ
 rw [hr]
 refine aBr ?_
 refine Wo.run (Q:=Exit.then (wpOps X.P l.toArray (gZ X k) [j]) (gZ X k)) (aCt hds) (fun _=>tQ X k) (fun ρ G μ hK a w ha ht=>?_) _ _ _ _ a w h ha ht
 obtain ⟨⟨o,ho,hg,hdst,hrun⟩,hwe⟩:=hK
 show wpOps X.P l.toArray (gZ X k) [j] a w
 simp only [wpOps,kG,ho]
 rw [if_pos (by simp [Region.wanted,hg])]
 refine .inl ?_
 unfold Oper.wp
 rw [hrun a w ha]
 simp only [Oper.upon,wpOps,hdst,Act.put]
 have:=hwe.out { a with defers:=d :: a.defers } w ⟨ha.size,by show d :: a.defers=[d]; rw [ha.defers,h0],ha.get⟩ ht
 rwa [aAc (X:=X.dfr d die1 ok1) (Y:=X) rfl rfl rfl k] at this
theorem We.finD {X:Cx} {ρ:aK} {G:PM} {μ:aG} (h:∀ a w,Ag X.n ρ a→Tr X.G0 X.K0 X.w0 G μ w→Leaves X.P X.fn a.tmps X.R X.n.ds .returning w):We X .ret [] ρ G μ :=
 ⟨fun a w ha ht=>by
  show Leaves X.P X.fn a.tmps X.R a.defers .returning w
  rw [ha.defers]; exact h a w ha ht⟩
def ifT (P:Program) (T:TypeId):Bool:=match P.underlying T with | some (.interface _)=>true | _=>false
theorem aGz {P:Program} {T:TypeId} (h:ifT P T=true):∃ q,P.underlying T=some (.interface q):=by
 unfold ifT at h
 split at h
 ·rename_i q hq; exact ⟨q,hq⟩
 ·cases h
def sJ (f:FuncId) (args:List Value):Deferred:={ target:=.fn (.func f) #[],args:=args.toArray }
theorem vM {X:Cx} {ρ:aK} {G:PM} {μ μ':aG} {vs:List Value} {rs:List ResultVar} {f:FuncId} {args:List Value} (hf:aQ X.P f=true) (hds:X.n.ds=[sJ f args])
  (hq:∀ w,CallsD X.P f args.toArray .returning w (fun e u' w'=>(∃ v,e=.returned v)∧u'=.returning∧w'=w)) (hr:X.fn.results=rs.toArray) (h:Rs X.P ρ G μ rs vs) (hM:MSub μ' μ) (hp:X.post G μ' (mC vs)):We X .ret [] ρ G μ :=
 We.finD fun a w ha ht=>by
  rw [hds]
  refine leaves_cons (by simp) (f:=f) (args:=args.toArray) (by simp [invoke,aBY hf]) ((hq w).mono ?_)
  rintro e u' w' ⟨⟨v,rfl⟩,rfl,rfl⟩
  exact ⟨_,aDk (by rw [hr]; exact h) ha ht.sat,.inl ⟨_,G,μ',rfl,hM.tr ht,hp⟩⟩
theorem aSJ {X:Cx} {k:List KI} {ρ:aK} {G:PM} {μ:aG} {id:Nat} {l:List Oper} {f:FuncId} {x:Operand} {tys:Array TypeId} {v:Value} {t:Nat} {p:String} {af:Array Edge}
  (hl:l=[⟨none,.defer { callee:=.value (.func f),args:=#[x],argTypes:=tys },t,p,af,none⟩]) (h0:X.n.ds=[]) (hx:ev ρ x=some (true,v))
  (h:We (X.dfr (sJ f [v]) (fun _ _ _ _=>False) (fun _ _ _ _ _ _ hq=>hq.elim)) .normal k ρ G μ):Wk X (.region id l.toArray false) k ρ G μ:=by
 subst hl
 refine Wk.defer [] 0 (sJ f [v]) (fun _ _ _ _=>False) (fun _ _ _ _ _ _ hq=>hq.elim) rfl rfl h0 (.nil ⟨⟨_,rfl,rfl,rfl,fun a w ha=>?_⟩,h⟩)
 have hv:a.eval x=v:=ha.eval hx rfl
 have hfn:a.eval (.func f)=.func (.func f) #[] #[]:=rfl
 simp [execOp,resolve,Deferred.ofValue,hv,hfn,sJ]
theorem Rs.congr {P:Program} {ρ ρ':aK} {G:PM} {μ:aG} {rs:List ResultVar} {vs:List Value} (h:Rs P ρ G μ rs vs) (e:∀ i,cJ ρ' i=cJ ρ i):Rs P ρ' G μ rs vs:=by
 induction h with
 | nil=>exact .nil
 | tmp h _ ih=>exact .tmp ((e _).trans h) ih
 | cell h hw _ ih=>exact .cell ((e _).trans h) hw ih
def aAw (P:Program) (pn:List PanicEntry) (b T:Nat) (v0:Value) (D:Prop) (rs:List ResultVar) (vs:List Value):List PanicEntry→aK→PM→aG→Prop:=fun ch ρ G μ =>
 (ch=pn∧D)∧∃ x μ',μ.Perm (.blk b (cl [x] T) :: μ')∧Rs P ρ G (.blk b (cl [v0] T) :: μ') rs vs
theorem yO {P:Program} {pn:List PanicEntry} {b T:Nat} {v0 x:Value} {D:Prop} {rs:List ResultVar} {vs:List Value} {ch:List PanicEntry} {ρ ρ':aK} {G:PM} {μ' μ₂ μ3:aG} (hd:ch=pn∧D) (he:∀ i,cJ ρ' i=cJ ρ i) (hm:μ'.Perm μ₂)
  (ht:MTake μ₂ (.blk b (cl [x] T)) μ3) (hR:Rs P ρ G (.blk b (cl [v0] T) :: μ3) rs vs):aAw P pn b T v0 D rs vs ch ρ' G μ' :=
 ⟨hd,x,μ3,hm.trans ht.perm,hR.congr he⟩
theorem aGG {X:Cx} {f:FuncId} {b T:Nat} {pn pn':List PanicEntry} {v0:Value} {D:Prop} {rs:List ResultVar} {vs:List Value} (hf:aQ X.P f=true) (hr:X.fn.results=rs.toArray)
  (hc:∀ w x,w.heap[b]? = some (cl [x] T)→CallsD X.P f #[.pointer (some ⟨b,0,none⟩)] (.panicking pn) w (fun e u' w'=>(∃ v,e=.returned v)∧u'=.panicking pn'∧w'=w.setRow b #[v0])) (hs:settle (.panicking pn')=.returning)
  (hp:D→∀ G',X.post G' [] (mC vs)) :
  ∀ ch ρ G μ a w,aAw X.P pn b T v0 D rs vs ch ρ G μ→Ag ⟨X.n.n,[sJ f [.pointer (some ⟨b,0,none⟩)]],aAw X.P pn b T v0 D rs vs⟩ ρ a→Tr X.G0 X.K0 X.w0 G μ w→Leaves X.P X.fn a.tmps (RR X.post X.die X.G0 X.K0 X.w0) a.defers (.panicking ch) w:=by
 rintro ch ρ G μ a w ⟨⟨rfl,hD⟩,x,μ',hm,hR⟩ ha ht
 rw [ha.defers]
 have ht':Tr X.G0 X.K0 X.w0 G ([.blk b (cl [x] T)]++μ') w:=ht.perm hm
 have hb:w.heap[b]? = some (cl [x] T):=ht'.sat.own _ (List.mem_append_left _ (List.mem_singleton.2 rfl))
 have ht2:=ht'.step (Tr.setRow (cs':=[v0]) ht'.sat.left)
 refine leaves_cons (by simp) (f:=f) (args:=#[.pointer (some ⟨b,0,none⟩)]) (by simp [invoke,aBY hf]) ((hc w x hb).mono ?_)
 rintro e u' w' ⟨⟨v,rfl⟩,rfl,rfl⟩
 show Leaves X.P X.fn a.tmps _ [] (settle (.panicking pn')) _
 rw [hs]
 exact ⟨_,aDk (by rw [hr]; exact hR) ha ht2.sat,.inl ⟨_,G,[],rfl,mN.tr ht2,hp hD G⟩⟩
theorem aJi {X:Cx} {k:List KI} {ρ:aK} {G:PM} {μ:aG} {id:Nat} {l:List Oper} {f:FuncId} {x:Operand} {tys:Array TypeId} {t:Nat} {p:String} {af:Array Edge} {b T:Nat} {pn pn':List PanicEntry} {v0:Value} (D:Prop) {rs:List ResultVar} (vs:List Value)
  (hl:l=[⟨none,.defer { callee:=.value (.func f),args:=#[x],argTypes:=tys },t,p,af,none⟩]) (h0:X.n.ds=[]) (hx:ev ρ x=some (true,.pointer (some ⟨b,0,none⟩)))
  (hf:aQ X.P f=true) (hr:X.fn.results=rs.toArray)
  (hc:∀ w x,w.heap[b]? = some (cl [x] T)→CallsD X.P f #[.pointer (some ⟨b,0,none⟩)] (.panicking pn) w (fun e u' w'=>(∃ v,e=.returned v)∧u'=.panicking pn'∧w'=w.setRow b #[v0])) (hs:settle (.panicking pn')=.returning)
  (hp:D→∀ G',X.post G' [] (mC vs))
  (h:We (X.dfr (sJ f [.pointer (some ⟨b,0,none⟩)]) (aAw X.P pn b T v0 D rs vs) (aGG hf hr hc hs hp)) .normal k ρ G μ):Wk X (.region id l.toArray false) k ρ G μ:=by
 subst hl
 refine Wk.defer [] 0 (sJ f [.pointer (some ⟨b,0,none⟩)]) _ (aGG hf hr hc hs hp) rfl rfl h0 (.nil ⟨⟨_,rfl,rfl,rfl,fun a w ha=>?_⟩,h⟩)
 have hv:a.eval x=.pointer (some ⟨b,0,none⟩):=ha.eval hx rfl
 have hfn:a.eval (.func f)=.func (.func f) #[] #[]:=rfl
 simp [execOp,resolve,Deferred.ofValue,hv,hfn,sJ]
end Go.Tan
namespace Go.Proofs.YtbdnclpopappeaaGreatDoor
open Go.Tan Go.RowKit
theorem cI:oO Tryz.prog 9=true:=by kernel_rfl
theorem fI:dT Tryz.prog 24=some none:=by kernel_rfl
theorem cA:dT Tryz.prog 5=some none:=by kernel_rfl
theorem aV:Tryz.prog.follows .mixedOrders=true:=by kernel_rfl
theorem aH:cG Tryz.prog 34=some (5,1,1):=by kernel_rfl
theorem aY:(Tryz.prog.info? 5).bind (·.zero)=some (.int .u8 0):=by kernel_rfl
theorem jX:bsT Tryz.prog 34 9=true:=by kernel_rfl
theorem rC:iS Tryz.prog 26=some ([V 0#8,V 0#8,uv .u64 0#64,uv .u64 0#64,uv .u64 0#64]):=by kernel_rfl
theorem mK:dG Tryz.prog 26=some 5:=by kernel_rfl
theorem fB:dT Tryz.prog 26=some (some 5):=by kernel_rfl
theorem fM:cK Tryz.prog 47 0=some 0:=by kernel_rfl
theorem cE:dT Tryz.prog 9=some none:=by kernel_rfl
theorem mG:cK Tryz.prog 47 3=some 3:=by kernel_rfl
theorem pP:cK Tryz.prog 47 1=some 1:=by kernel_rfl
theorem xJ:cK Tryz.prog 47 2=some 2:=by kernel_rfl
theorem dZ:cG Tryz.prog 31=some (47,4,48):=by kernel_rfl
theorem gJ:(cG Tryz.prog 31).isSome=true:=by kernel_rfl
theorem dN:dT Tryz.prog 47=some (some 4):=by kernel_rfl
theorem aKp:aQ Tryz.prog 60=true:=by kernel_rfl
theorem aEu:aQ Tryz.prog 21=true:=by kernel_rfl
theorem xS:iS Tryz.prog 47=some ([.string ByteArray.empty,.int .u64 0,.int .u8 0,.string ByteArray.empty]):=by kernel_rfl
theorem fN:dG Tryz.prog 47=some 4:=by kernel_rfl
theorem aKF:cK Tryz.prog 36 0=some 0:=by kernel_rfl
theorem aKG:cK Tryz.prog 36 1=some 1:=by kernel_rfl
theorem aKH:cK Tryz.prog 36 2=some 2:=by kernel_rfl
theorem aKI:cK Tryz.prog 36 3=some 3:=by kernel_rfl
theorem aJ5:fX Tryz.prog 26 [0,1,2,3,4]=some ([V 0#8,V 0#8,uv .u64 0#64,uv .u64 0#64,uv .u64 0#64],[(0,1),(1,1),(2,1),(3,1),(4,1)]):=by kernel_rfl
theorem aCv (e:Ent) (G:PM):Ct Tryz.prog 21 ([e.val]:List Value).toArray G [] (fun _ μ' u=>μ'=[]∧u=.bool (bT e)):=by
 refine Ct.of Tryz.func21 rfl Tryz.ntmps21 rfl fun w0 hs0=>?_
 refine .seq (bD rfl rfl ?_)
 refine bX rfl rfl rfl ?_; intro b1
 refine .g (fZ rfl fM rfl (lO rfl cE rfl .here (by first|exact aJ rfl|rfl) ?_))
 refine ls rfl .no cI (.u rfl) (cP rfl rfl rfl rfl (.g (cD rfl (fun c1=>?_) (fun c1=>?_))))
 ·have c1k:=c1
  try simp only [aC,aI,aD] at c1
  refine .g (tR rfl c1k ?_)
  refine .seq (aM rfl rfl (aS rfl rfl (.nc (.ret (aP Tryz.results21 (.tmp rfl .nil) ?_)))))
  exact ⟨rfl,congrArg Value.bool (eR1 c1).symm⟩
 have c1k:=c1
 try simp only [aC,aI,aD] at c1
 refine .g (fZ rfl mG rfl (lO rfl cE rfl .here (by first|exact aJ rfl|rfl) ?_))
 refine ls rfl .no cI (.u rfl) (cP rfl rfl rfl rfl (.g (cD rfl (fun c2=>?_) (fun c2=>?_))))
 ·have c2k:=c2
  try simp only [aC,aI,aD] at c2
  refine .g (tR rfl c2k ?_)
  refine .seq (aM rfl rfl (aS rfl rfl (.nc (.ret (aP Tryz.results21 (.tmp rfl .nil) ?_)))))
  exact ⟨rfl,congrArg Value.bool (eR2 c2).symm⟩
 have c2k:=c2
 try simp only [aC,aI,aD] at c2
 refine .g (fZ rfl pP rfl (lO rfl fI rfl .here (by first|exact aJ rfl|rfl) ?_))
 refine cP rfl rfl rfl rfl (.g (cD rfl (fun c3=>?_) (fun c3=>?_)))
 ·have c3k:=c3
  try simp only [aC,aI,aD] at c3
  refine .seq (aM rfl rfl (aS rfl rfl (.nc (.ret (aP Tryz.results21 (.tmp rfl .nil) ?_)))))
  exact ⟨rfl,congrArg Value.bool (yQ c3).symm⟩
 have c3k:=c3
 try simp only [aC,aI,aD] at c3
 refine .g (fZ rfl xJ rfl (lO rfl cA rfl .here (by first|exact aJ rfl|rfl) ?_))
 refine cP rfl rfl rfl rfl (.g (cD rfl (fun c4=>?_) (fun c4=>?_)))
 ·have c4k:=c4
  try simp only [aC,aI,aD] at c4
  refine .g (fZ rfl mG rfl (lO rfl cE rfl .here (by first|exact aJ rfl|rfl) ?_))
  refine cs rfl .no (.u rfl) (.u rfl) rfl (aS rfl rfl (.nc (.ret (aP Tryz.results21 (.tmp rfl .nil) ?_))))
  exact ⟨rfl,congrArg Value.bool (eR4 c1 c2 c3 c4).symm⟩
 have c4k:=c4
 try simp only [aC,aI,aD] at c4
 refine .g (fZ rfl xJ rfl (lO rfl cA rfl .here (by first|exact aJ rfl|rfl) ?_))
 refine cP rfl rfl rfl rfl (aS rfl rfl (.nc (.ret (aP Tryz.results21 (.tmp rfl .nil) ?_))))
 exact ⟨rfl,congrArg Value.bool (eR5 c1 c2 c3 c4).symm⟩
theorem aLy (a b:ByteArray) (G:PM) (ha:a.size≤1000000):Ct Tryz.prog 29 ([.string a,.string b]:List Value).toArray G [] (fun _ μ' u=>μ'=[]∧u=.string (aN (nG (yb a) (yb b)))):=by
 refine Ct.of Tryz.func29 rfl Tryz.ntmps29 rfl fun w0 hs0=>?_
 refine .g (ls rfl .no cI (.u rfl) (.p (ls rfl .no cI (.u rfl) (wK (a.size) (b.size) rfl .no (.u rfl) (.u rfl) (by omega) (by omega) ?_))))
 refine mV rfl rfl (.nc (.block ?_))
 refine bE (α:=Nat) (fun k=>[(11,true,.int .i64 (k:Int))]) (fun _=>[])
  (fun k Gl=>(k≤a.size∧k≤b.size)∧(∀ j,j<k→(yb a).getD j 0=(yb b).getD j 0)) (fun k=>a.size-k) 0 [(0,true,_),(1,true,_),(10,true,_)] []
  (aO rfl (aA rfl (aA rfl (aA rfl eZ))))
  mN ?_ ?_
 ·refine ⟨?_,?_⟩
  ·(try dsimp only)<;>(first|omega|rfl|assumption|(simp; done))
  (try dsimp only)<;>(exact fun j h=>absurd h (Nat.not_lt_zero _))
 intro k N0 Gl0 hN0 hGl0 hF0
 try dsimp only at hF0 hN0 ⊢
 obtain ⟨hk,hj⟩:=hF0
 refine .g (cP rfl rfl rfl rfl (.g (cD rfl (fun c1=>?_) (fun c1=>?_))))
 ·have c1k:=c1
  try simp only [aC,aD] at c1
  refine .g (bG (mc:=⟨false,false⟩) [0,1,2,3,4,5,6] aV (by kernel_rfl) ?_)
  refine .p (sI (k) rfl .no cI (.u rfl) (.u rfl) (by omega) (fun _=>by first|omega|(simp only [Bool.and_eq_true,decide_eq_true_eq] at hc; omega)) ?_)
  refine .p (sI (k) rfl .no cI (.u rfl) (.u rfl) (by omega) (fun _=>by first|omega|(simp only [Bool.and_eq_true,decide_eq_true_eq] at hc; omega)) ?_)
  refine cP rfl rfl rfl rfl (.g (cD rfl (fun c2=>?_) (fun c2=>?_)))
  ·have c2k:=c2
   try simp only [aC,aD] at c2
   refine .g (aW (((k+1):Nat):Int) rfl rfl rfl rfl ?_)
   refine .g (aZ (k+1) ?_ ?_ ?_ ?_ ?_)
   ·exact (aO rfl (aA rfl (aA rfl (aA rfl eZ))))
   ·exact mN
   ·first|omega|(dsimp only; omega)
   ·exact hGl0
   refine ⟨?_,?_⟩
   ·(try dsimp only)<;>(first|omega|rfl|assumption|(simp; done))
   (try dsimp only)<;>(exact aCd hj c2)
  have c2k:=c2
  try simp only [aC,aD] at c2
  refine .g (bG (mc:=⟨false,false⟩) [0,1,2,3,4,5,6,7,8,9,10,11,12,13,14,15,16] aV (by kernel_rfl) ?_)
  refine .p (sI (k) rfl .no cI (.u rfl) (.u rfl) (by omega) (fun _=>by first|omega|(simp only [Bool.and_eq_true,decide_eq_true_eq] at hc; omega)) ?_)
  refine .p (sI (k) rfl .no cI (.u rfl) (.u rfl) (by omega) (fun _=>by first|omega|(simp only [Bool.and_eq_true,decide_eq_true_eq] at hc; omega)) ?_)
  refine cP rfl rfl rfl rfl (mV rfl rfl (mv rfl (.t rfl rfl) (.u rfl) (mv rfl (.t rfl rfl) (.u rfl) (sI (k) rfl (.t rfl rfl) cI (.s rfl) (.s rfl) (fun hc=>by omega) (fun hc=>by first|omega|(simp only [Bool.and_eq_true,decide_eq_true_eq] at hc; omega)) ?_))))
  refine mv rfl (.t rfl rfl) (.u rfl) (mv rfl (.t rfl rfl) (.u rfl) (sI (k) rfl (.t rfl rfl) cI (.s rfl) (.s rfl) (fun hc=>by omega) (fun hc=>by first|omega|(simp only [Bool.and_eq_true,decide_eq_true_eq] at hc; omega)) ?_))
  refine bw (k:=.u8) rfl (.t rfl rfl) rfl (.s rfl) (.s rfl) rfl (cp rfl (.t rfl rfl) (.s rfl) (.u rfl) rfl (cC rfl .no (.u rfl) (.s rfl) (.g (cD rfl (fun c3=>?_) (fun c3=>?_)))))
  ·have c3k:=c3
   try simp only [aC,aD] at c3
   refine .seq (bG (mc:=⟨false,false⟩) [0,1,2,3,4,5,6,7,8,9,10] aV (by kernel_rfl) ?_)
   refine .p (sE (k) rfl .no cI (.u rfl) (.u rfl) (by omega) (by omega) ?_)
   refine .p (sI (k) rfl .no cI (.u rfl) (.u rfl) (by omega) (fun _=>by first|omega|(simp only [Bool.and_eq_true,decide_eq_true_eq] at hc; omega)) ?_)
   refine bw (k:=.u8) (b:=1#8) rfl .no rfl (.u rfl) (.u rfl) rfl ?_
   refine Go.Tan.b1 rfl aH aY (.u rfl) rfl rfl (by decide) ?_; intro b45
   refine sB rfl .no jX (.u rfl) (fun _=>(Sc.one .here)) ?_
   refine sP rfl .no (.u rfl) (.u rfl) (fun _=>aMM ha) ?_
   refine aS rfl rfl (.nc (.ret (aP Tryz.results29 (.tmp rfl .nil) ?_)))
   exact ⟨rfl,congrArg Value.string (aMN (by omega) hj c3)⟩
  have c3k:=c3
  try simp only [aC,aD] at c3
  refine .skip (.code (.exit (.xnot rfl (.xcode (.xlp (.xblk (.code (.seq (bD rfl rfl (mV rfl rfl (aS rfl rfl (.nc (.ret (aP Tryz.results29 (.tmp rfl .nil) ?_))))))))))))))
  exact ⟨rfl,congrArg Value.string (aML (by omega) hj c2 c3k)⟩
 have c1k:=c1
 try simp only [aC,aD] at c1
 refine .exit (.xcode (.xlp (.xblk (.code (.seq (bD rfl rfl (mV rfl rfl (aS rfl rfl (.nc (.ret (aP Tryz.results29 (.tmp rfl .nil) ?_)))))))))))
 exact ⟨rfl,congrArg Value.string (aMK hk (by omega) hj)⟩
theorem aGv (h:Sh) (l:List Ent) (G:PM) (hs:SlR G 4 Ent.cells h l) (hl:l.length≤100000000) (f:Nat) (hf:aQ Tryz.prog f=true) (vc:List Value) (p:Ent→Bool) (hc:∀ G',PM.le G G'→∀ m∈l,Ct Tryz.prog f ([m.val]++vc).toArray G' [] fun _ μ' u=>μ'=[]∧u=.bool (p m)):Ct Tryz.prog 60 ([h.val l.length,.func (.func f) #[] vc.toArray]:List Value).toArray G [] (fun _ μ' u=>μ'=[]∧u=.int .i64 (gU p l)):=by
 refine Ct.of Tryz.func60 rfl Tryz.ntmps60 rfl fun w0 hs0=>?_
 refine .g (lE rfl gJ rfl (mV rfl rfl (.nc (.block ?_))))
 refine bE (α:=Nat) (fun k=>[(8,true,.int .i64 (k:Int))]) (fun _=>[])
  (fun k Gl=>(k≤l.length)∧(∀ j y,j<k→l[j]? = some y→p y=false)) (fun k=>l.length-k) 0 [(0,true,_),(1,true,_),(7,true,_)] []
  (aO rfl (aA rfl (aA rfl (aA rfl eZ))))
  mN ?_ ?_
 ·refine ⟨?_,?_⟩
  ·(try dsimp only)<;>(first|omega|rfl|assumption|(simp; done))
  (try dsimp only)<;>(exact fun j y h=>absurd h (Nat.not_lt_zero _))
 intro k N0 Gl0 hN0 hGl0 hF0
 try dsimp only at hF0 hN0 ⊢
 obtain ⟨hk,hno⟩:=hF0
 have hs:=hs.mono hGl0
 refine .g (cP rfl rfl rfl rfl (.g (cD rfl (fun c1=>?_) (fun c1=>?_))))
 ·have c1k:=c1
  try simp only [aC,aD] at c1
  refine .skip (.code (.seq (.block (.seq (bD rfl rfl (mV rfl rfl (aS rfl rfl (.nc (.seq (nO rfl rfl (mV rfl rfl (mV rfl rfl (mV rfl rfl (ih rfl .no dZ (.u rfl) (.u rfl) (by omega) (by omega) (fun _=>hs.nn (k:=k) (by first|omega|(simp only [Bool.and_eq_true,decide_eq_true_eq] at hc; omega)|(simp only [List.length_cons,List.length_nil]; omega))) ?_))))))))))))))
  obtain ⟨x,ex⟩:=dO (k:=k) (xs:=l) (by omega)
  refine lA rfl .no dN (.u rfl) (fun _=>(hs.at (by omega) ex).rd) (fun _=>Ent.len _) ?_
  refine kf rfl .no (.u rfl) hf (aB rfl aE) (fun _=>hc _ hGl0 x (List.mem_of_getElem? ex)) ?_
  refine .g (cD rfl (fun c2=>?_) (fun c2=>?_))
  ·have c2k:=c2
   try simp only [aC,aD] at c2
   refine .seq (bD rfl rfl (mV rfl rfl (aS rfl rfl (.nc (.ret (aP Tryz.results60 (.tmp rfl .nil) ?_))))))
   exact ⟨rfl,aGw hno ex (by simpa using c2k)⟩
  have c2k:=c2
  try simp only [aC,aD] at c2
  refine .g (aW (((k+1):Nat):Int) rfl rfl rfl rfl ?_)
  refine .g (aZ (k+1) ?_ ?_ ?_ ?_ ?_)
  ·exact (aO rfl (aA rfl (aA rfl (aA rfl eZ))))
  ·exact mN
  ·first|omega|(dsimp only; omega)
  ·exact hGl0
  refine ⟨?_,?_⟩
  ·(try dsimp only)<;>(first|omega|rfl|assumption|(simp; done))
  (try dsimp only)<;>(exact aGy hno ex (by simpa using c2k))
 have c1k:=c1
 try simp only [aC,aD] at c1
 refine .exit (.xcode (.xlp (.xblk (.code (.seq (aM rfl rfl (aS rfl rfl (.nc (.ret (aP Tryz.results60 (.tmp rfl .nil) ?_))))))))))
 exact ⟨rfl,aGx hno (by omega)⟩
theorem aF4 (h:Sh) (l:List Ent) (G:PM) (hs:SlR G 4 Ent.cells h l) (hl:l.length≤100000000) (f:Nat) (hf:aQ Tryz.prog f=true) (vc:List Value) (p:Ent→Bool) (hc:∀ G',PM.le G G'→∀ m∈l,Ct Tryz.prog f ([m.val]++vc).toArray G' [] fun _ μ' u=>μ'=[]∧u=.bool (p m)):Ct Tryz.prog 23 ([h.val l.length,.func (.func f) #[] vc.toArray]:List Value).toArray G [] (fun _ μ' u=>μ'=[]∧u=.bool (l.any p)):=by
 refine Ct.of Tryz.func23 rfl Tryz.ntmps23 rfl fun w0 hs0=>?_
 refine .g (kV rfl aKp (aB rfl (aB rfl aE)) (aGv h l _ hs hl f hf vc p hc) ?_)
 refine cP rfl rfl rfl rfl (aS rfl rfl (.nc (.ret (aP Tryz.results23 (.tmp rfl .nil) ?_))))
 exact ⟨rfl,congrArg Value.bool aNe⟩
theorem aRM (e:Ent) (G:PM):Ct Tryz.prog 20 ([e.val]:List Value).toArray G [] (fun _ μ' u=>μ'=[]∧u=.bool (!bT e)):=by
 refine Ct.of Tryz.func20 rfl Tryz.ntmps20 rfl fun w0 hs0=>?_
 refine .seq (bD rfl rfl ?_)
 refine bX rfl rfl rfl ?_; intro b1
 refine .g (lA rfl .no dN (.u rfl) (fun _=>RdN.own .here) (fun _=>(by first|rfl|exact Ent.len _)) ?_)
 refine kV rfl aEu (aB rfl aE) (aCv _ _) ?_
 refine nt rfl .no (.u rfl) (aS rfl rfl (.nc (.ret (aP Tryz.results20 (.tmp rfl .nil) ?_))))
 exact ⟨rfl,rfl⟩
theorem aLj (e:Ent) (G:PM):Ct Tryz.prog 70 ([e.val]:List Value).toArray G [] (fun _ μ' u=>μ'=[]∧u=.bool (!bT e)):=by
 refine Ct.of Tryz.func70 rfl Tryz.ntmps70 rfl fun w0 hs0=>?_
 refine .seq (bD rfl rfl ?_)
 refine bX rfl rfl rfl ?_; intro b1
 refine .g (lA rfl .no dN (.u rfl) (fun _=>RdN.own .here) (fun _=>(by first|rfl|exact Ent.len _)) ?_)
 refine kV rfl aEu (aB rfl aE) (aCv _ _) ?_
 refine nt rfl .no (.u rfl) (aS rfl rfl (.nc (.ret (aP Tryz.results70 (.tmp rfl .nil) ?_))))
 exact ⟨rfl,rfl⟩
theorem aDm (h:Sh) (l:List Ent) (G:PM) (hs:SlR G 4 Ent.cells h l) (hl:l.length≤10000000000000):Ct Tryz.prog 24 ([h.val l.length]:List Value).toArray G [] (fun _ μ' u=>μ'=[]∧u=.bool (cZ l)):=by
 refine Ct.of Tryz.func24 rfl Tryz.ntmps24 rfl fun w0 hs0=>?_
 refine .seq (aM rfl rfl (aS rfl rfl (.nc (.seq (.seq (aM rfl rfl (aS rfl rfl (.nc (.block ?_)))))))))
 refine bE (α:=Nat) (fun k=>[(3,true,.int .i64 (k:Int))]) (fun _=>[])
  (fun k Gl=>(1≤k∧(k≤l.length∨l.length=0))∧(∀ j,j+1<k→dQ (l.getD j Ent.zero) (l.getD (j+1) Ent.zero)=true)) (fun k=>l.length-k) 1 [(0,true,_)] []
  (aO rfl (aA rfl eZ))
  mN ?_ ?_
 ·refine ⟨?_,?_⟩
  ·(try dsimp only)<;>(first|omega|rfl|assumption|(simp; done))
  (try dsimp only)<;>(exact fun j h=>absurd h (by omega))
 intro k N0 Gl0 hN0 hGl0 hF0
 try dsimp only at hF0 hN0 ⊢
 obtain ⟨hk,hj⟩:=hF0
 have hs:=hs.mono hGl0
 refine .g (lE rfl gJ rfl (cP rfl rfl rfl rfl (.g (cD rfl (fun c1=>?_) (fun c1=>?_)))))
 ·have c1k:=c1
  try simp only [aC,aD] at c1
  refine .skip (.code (.seq (.block (.seq (dP ⟨false,false⟩ aV (by kernel_rfl) ?_)))))
  refine Wp.one 0 (by kernel_rfl) ?_
  refine mV rfl rfl (.nil (Wp.one 1 (by kernel_rfl) ?_))
  refine mV rfl rfl (.nil (Wp.one 2 (by kernel_rfl) ?_))
  refine aR rfl rfl rfl rfl ?_
  refine .nil (Wp.one 3 (by kernel_rfl) ?_)
  refine ih rfl .no dZ (.u rfl) (.u rfl) (by omega) (by omega) (fun _=>hs.nn (k:=((((k:Nat):Int)-(1:Int))).toNat) (by first|omega|(simp only [Bool.and_eq_true,decide_eq_true_eq] at hc; omega)|(simp only [List.length_cons,List.length_nil]; omega))) ?_
  refine .nil (Wp.one 4 (by kernel_rfl) ?_)
  obtain ⟨x,ex⟩:=dO (k:=k-1) (xs:=l) (by omega)
  refine lA rfl .no dN (.u rfl) (fun _=>(hs.at (by omega) ex).rd) (fun _=>Ent.len _) ?_
  refine .nil (Wp.one 5 (by kernel_rfl) ?_)
  refine mV rfl rfl (.nil (Wp.one 6 (by kernel_rfl) ?_))
  refine mV rfl rfl (.nil (Wp.one 7 (by kernel_rfl) ?_))
  refine ih rfl .no dZ (.u rfl) (.u rfl) (by omega) (by omega) (fun _=>hs.nn (k:=k) (by first|omega|(simp only [Bool.and_eq_true,decide_eq_true_eq] at hc; omega)|(simp only [List.length_cons,List.length_nil]; omega))) ?_
  refine .nil (Wp.pr 8 (by kernel_rfl) ?_)
  obtain ⟨y,ey⟩:=dO (k:=k) (xs:=l) (by omega)
  refine lA rfl .no dN (.u rfl) (fun _=>(hs.at (by omega) ey).rd) (fun _=>Ent.len _) ?_
  refine .nil ⟨⟨rfl,rfl⟩,?_⟩
  refine Wp.b2 9 10 (by kernel_rfl) ?_ ?_
  ·refine al rfl xS ?_; intro b4
   refine .nil (Wp.b1 10 (by kernel_rfl) ?_)
   refine al rfl xS ?_; intro b5
   refine .nil (Wp.b1 11 (by kernel_rfl) ?_)
   refine sw rfl (.u rfl) (.u rfl) rfl fN aF (by first|rfl|exact Ent.len _) (Ent.one _) ?_
   refine .nil (Wp.b1 12 (by kernel_rfl) ?_)
   refine sw rfl (.u rfl) (.u rfl) rfl fN aF (by first|rfl|exact Ent.len _) (Ent.one _) ?_
   refine .nil (Wp.last (by kernel_rfl) ?_)
   refine .g (fZ rfl fM rfl (lO rfl cE rfl aF (by first|exact aJ rfl|rfl) ?_))
   refine fZ rfl fM rfl (lO rfl cE rfl .here (by first|exact aJ rfl|rfl) ?_)
   refine cs rfl .no (.u rfl) (.u rfl) rfl (.p (fz rfl (.f rfl rfl) fM (.u rfl) (ld rfl (.f rfl rfl) cE (.s rfl) (fun hc=>Rd.own aF (by first|exact aJ rfl|rfl)) ?_)))
   refine fz rfl (.f rfl rfl) fM (.u rfl) (ld rfl (.f rfl rfl) cE (.s rfl) (fun hc=>Rd.own .here (by first|exact aJ rfl|rfl)) ?_)
   refine cs rfl (.f rfl rfl) (.s rfl) (.s rfl) rfl (mv rfl (.f rfl rfl) (.s rfl) (fz rfl (.tc rfl rfl) pP (.u rfl) (ld rfl (.tc rfl rfl) fI (.s rfl) (fun hc=>Rd.own aF (by first|exact aJ rfl|rfl)) ?_)))
   refine fz rfl (.tc rfl rfl) pP (.u rfl) (ld rfl (.tc rfl rfl) fI (.s rfl) (fun hc=>Rd.own .here (by first|exact aJ rfl|rfl)) ?_)
   refine cp rfl (.tc rfl rfl) (.s rfl) (.s rfl) rfl (cC rfl (.f rfl rfl) (.s rfl) (.s rfl) (cL rfl .no (.u rfl) (.s rfl) (.g (cD rfl (fun c2=>?_) (fun c2=>?_)))))
   ·have c2k:=c2
    try simp only [aC,aD] at c2
    refine .seq (aM rfl rfl (aS rfl rfl (.nc (.ret (aP Tryz.results24 (.tmp rfl .nil) ?_)))))
    exact ⟨rfl,congrArg Value.bool (aIG hk.1 ex ey c2k).symm⟩
   have c2k:=c2
   try simp only [aC,aD] at c2
   refine .g (aW (((k+1):Nat):Int) rfl rfl rfl rfl ?_)
   refine .g (aZ (k+1) ?_ ?_ ?_ ?_ ?_)
   ·exact (aO rfl (aA rfl eZ))
   ·exact mN
   ·first|omega|(dsimp only; omega)
   ·exact hGl0
   refine ⟨?_,?_⟩
   ·(try dsimp only)<;>(first|omega|rfl|assumption|(simp; done))
   (try dsimp only)<;>(exact aIH hk.1 hj ex ey c2k)
  refine al rfl xS ?_; intro b5
  refine .nil (Wp.b1 9 (by kernel_rfl) ?_)
  refine al rfl xS ?_; intro b4
  refine .nil (Wp.b1 11 (by kernel_rfl) ?_)
  refine sw rfl (.u rfl) (.u rfl) rfl fN .here (by first|rfl|exact Ent.len _) (Ent.one _) ?_
  refine .nil (Wp.b1 12 (by kernel_rfl) ?_)
  refine sw rfl (.u rfl) (.u rfl) rfl fN aF (by first|rfl|exact Ent.len _) (Ent.one _) ?_
  refine .nil (Wp.last (by kernel_rfl) ?_)
  refine .g (fZ rfl fM rfl (lO rfl cE rfl aF (by first|exact aJ rfl|rfl) ?_))
  refine fZ rfl fM rfl (lO rfl cE rfl .here (by first|exact aJ rfl|rfl) ?_)
  refine cs rfl .no (.u rfl) (.u rfl) rfl (.p (fz rfl (.f rfl rfl) fM (.u rfl) (ld rfl (.f rfl rfl) cE (.s rfl) (fun hc=>Rd.own aF (by first|exact aJ rfl|rfl)) ?_)))
  refine fz rfl (.f rfl rfl) fM (.u rfl) (ld rfl (.f rfl rfl) cE (.s rfl) (fun hc=>Rd.own .here (by first|exact aJ rfl|rfl)) ?_)
  refine cs rfl (.f rfl rfl) (.s rfl) (.s rfl) rfl (mv rfl (.f rfl rfl) (.s rfl) (fz rfl (.tc rfl rfl) pP (.u rfl) (ld rfl (.tc rfl rfl) fI (.s rfl) (fun hc=>Rd.own aF (by first|exact aJ rfl|rfl)) ?_)))
  refine fz rfl (.tc rfl rfl) pP (.u rfl) (ld rfl (.tc rfl rfl) fI (.s rfl) (fun hc=>Rd.own .here (by first|exact aJ rfl|rfl)) ?_)
  refine cp rfl (.tc rfl rfl) (.s rfl) (.s rfl) rfl (cC rfl (.f rfl rfl) (.s rfl) (.s rfl) (cL rfl .no (.u rfl) (.s rfl) (.g (cD rfl (fun c2=>?_) (fun c2=>?_)))))
  ·have c2k:=c2
   try simp only [aC,aD] at c2
   refine .seq (aM rfl rfl (aS rfl rfl (.nc (.ret (aP Tryz.results24 (.tmp rfl .nil) ?_)))))
   exact ⟨rfl,congrArg Value.bool (aIG hk.1 ex ey c2k).symm⟩
  have c2k:=c2
  try simp only [aC,aD] at c2
  refine .g (aW (((k+1):Nat):Int) rfl rfl rfl rfl ?_)
  refine .g (aZ (k+1) ?_ ?_ ?_ ?_ ?_)
  ·exact (aO rfl (aA rfl eZ))
  ·exact mN
  ·first|omega|(dsimp only; omega)
  ·exact hGl0
  refine ⟨?_,?_⟩
  ·(try dsimp only)<;>(first|omega|rfl|assumption|(simp; done))
  (try dsimp only)<;>(exact aIH hk.1 hj ex ey c2k)
 have c1k:=c1
 try simp only [aC,aD] at c1
 refine .exit (.xcode (.xlp (.xblk (.code (.seq (aM rfl rfl (aS rfl rfl (.nc (.ret (aP Tryz.results24 (.tmp rfl .nil) ?_))))))))))
 exact ⟨rfl,congrArg Value.bool (aII (by omega) hj).symm⟩
theorem aMo (h:Sh) (l:List Ent) (least:Int) (G:PM) (hs:SlR G 4 Ent.cells h l) (hw:dL l≤100000000) (hl:l.length≤100000000):Ct Tryz.prog 27 ([h.val l.length,.int .i64 least]:List Value).toArray G [] (fun _ μ' u=>μ'=[]∧u=.int .i64 (gK least 0 l:Int)):=by
 refine Ct.of Tryz.func27 rfl Tryz.ntmps27 rfl fun w0 hs0=>?_
 refine .g (lE rfl gJ rfl (mV rfl rfl (.nc (.block ?_))))
 refine bE (α:=Nat) (fun k=>[(5,true,.int .i64 (gA l k)),(10,true,.int .i64 (k:Int))]) (fun _=>[])
  (fun k Gl=>(k≤l.length)∧(∀ j,j<k→gA l (j+1)<least)) (fun k=>l.length-k) 0 [(0,true,_),(1,true,_),(8,true,_),(9,true,_)] []
  (aO rfl (aO rfl (aA rfl (aA rfl (aA rfl (aA rfl eZ))))))
  mN ?_ ?_
 ·refine ⟨?_,?_⟩
  ·(try dsimp only)<;>(first|omega|rfl|assumption|(simp; done))
  (try dsimp only)<;>(exact fun j h=>absurd h (Nat.not_lt_zero _))
 intro k N0 Gl0 hN0 hGl0 hF0
 try dsimp only at hF0 hN0 ⊢
 obtain ⟨hk,hj⟩:=hF0
 have hs:=hs.mono hGl0
 have h1:=aIz hw hl (k:=k) (by omega)
 refine .g (cP rfl rfl rfl rfl (.g (cD rfl (fun c1=>?_) (fun c1=>?_))))
 ·have c1k:=c1
  try simp only [aC,aD] at c1
  refine .skip (.code (.seq (.block (.seq (nO rfl rfl (mV rfl rfl (ih rfl .no dZ (.u rfl) (.u rfl) (by omega) (by omega) (fun _=>hs.nn (k:=k) (by first|omega|(simp only [Bool.and_eq_true,decide_eq_true_eq] at hc; omega)|(simp only [List.length_cons,List.length_nil]; omega))) ?_)))))))
  obtain ⟨x,ex⟩:=dO (k:=k) (xs:=l) (by omega)
  refine lA rfl .no dN (.u rfl) (fun _=>(hs.at (by omega) ex).rd) (fun _=>Ent.len _) ?_
  refine al rfl xS ?_; intro b7
  refine .p (sw rfl (.u rfl) (.u rfl) rfl fN .here (by first|rfl|exact Ent.len _) (Ent.one _) ?_)
  refine .g (fZ rfl fM rfl (lO rfl cE rfl .here (by first|exact aJ rfl|rfl) ?_))
  refine ls rfl .no cI (.u rfl) (fZ rfl mG rfl (lO rfl cE rfl .here (by first|exact aJ rfl|rfl) ?_))
  refine ls rfl .no cI (.u rfl) ?_
  have hn:=aRK ex
  have h2:=aIz hw hl (k:=k+1) (by omega)
  refine aW (((x.user.size+x.value.size):Nat):Int) rfl rfl rfl rfl ?_
  refine dR ((((x.user.size+x.value.size)+8):Nat):Int) rfl .no (.u rfl) (.u rfl) rfl (by omega) (fun _=>cB (by omega) (by omega)) ?_
  refine aR rfl rfl rfl rfl ?_
  refine .g (cP rfl rfl rfl rfl (.g (cD rfl (fun c2=>?_) (fun c2=>?_))))
  ·have c2k:=c2
   try simp only [aC,aD] at c2
   refine .g (aW (((k+1):Nat):Int) rfl rfl rfl rfl ?_)
   refine aS rfl rfl (.nc (.ret (aP Tryz.results27 (.tmp rfl .nil) ?_)))
   exact ⟨rfl,by rw [aGB least l 0 k (by omega) (fun j h=>by have:=hj j h; omega) (by omega)]; rfl⟩
  have c2k:=c2
  try simp only [aC,aD] at c2
  refine .g (aW (((k+1):Nat):Int) rfl rfl rfl rfl ?_)
  refine .g (aZ (k+1) ?_ ?_ ?_ ?_ ?_)
  ·exact (fD rfl (oB (by omega)) (aO rfl (aA rfl (aA rfl (aA rfl (aA rfl eZ))))))
  ·exact mN
  ·first|omega|(dsimp only; omega)
  ·exact hGl0
  refine ⟨?_,?_⟩
  ·(try dsimp only)<;>(first|omega|rfl|assumption|(simp; done))
  (try dsimp only)<;>(exact aMp hj (by omega))
 have c1k:=c1
 try simp only [aC,aD] at c1
 refine .g (lE rfl gJ rfl (aS rfl rfl (.nc (.ret (aP Tryz.results27 (.tmp rfl .nil) ?_)))))
 exact ⟨rfl,by rw [aGA least l 0 (fun j h=>by have:=hj j (by omega); omega)]; rfl⟩
theorem aI2 (m:Meta) (G:PM) (hw:m.wf):Ct Tryz.prog 10 ([m.val]:List Value).toArray G [] (fun _ μ' u=>μ'=[]∧u=.agg ((bH m).cells).toArray):=by
 refine Ct.of Tryz.func10 rfl Tryz.ntmps10 rfl fun w0 hs0=>?_
 refine .seq (bD rfl rfl ?_)
 refine bX rfl rfl rfl ?_; intro b1
 refine al rfl rC ?_; intro b2
 refine .g (fZ rfl aKF rfl (lO rfl cA rfl aF (by first|exact aJ rfl|rfl) ?_))
 refine fZ rfl aKG rfl (lO rfl fI rfl aF (by first|exact aJ rfl|rfl) ?_)
 refine fZ rfl aKH rfl (lO rfl fI rfl aF (by first|exact aJ rfl|rfl) ?_)
 refine fZ rfl aKI rfl (lO rfl fI rfl aF (by first|exact aJ rfl|rfl) ?_)
 refine bC rfl .no aJ5 (.cons (.u rfl) rfl (.cons (.u rfl) rfl (.cons (.u rfl) rfl (.cons (.u rfl) rfl (.cons (.u rfl) rfl .nil))))) rfl ?_
 refine sw rfl (.u rfl) (.u rfl) rfl mK .here (by first|rfl|exact Meta.len _) (lS rfl rfl rfl rfl rfl) ?_
 refine .nil (.code (.ret (aP Tryz.results10 (.cell rfl (fun w hw=>bW fB (RdN.own .here) ((by first|rfl|exact Meta.len _)) hw) .nil) ?_)))
 exact ⟨rfl,by rw [← aGs hw]; rfl⟩
theorem aSl:lC Tryz.prog 3 128=some .u64:=by kernel_rfl
theorem vE:aQ Tryz.prog 100=true:=by kernel_rfl
theorem aAY:iS Tryz.prog 198=some ([.int .u32 0,.int .u32 0,.int .u32 0,.int .u32 0,.int .u32 0,.int .u32 0,.int .u32 0,.int .u32 0,.int .u32 0,.int .u32 0,.int .u32 0,.int .u32 0,.int .u32 0,.int .u32 0,.int .u32 0,.int .u32 0]):=by kernel_rfl
theorem bY:iG Tryz.prog 198=some (16,139,1):=by kernel_rfl
theorem bI:dT Tryz.prog 139=some none:=by kernel_rfl
theorem eC:dG Tryz.prog 139=some 1:=by kernel_rfl
theorem aB3:aQ Tryz.prog 156=true:=by kernel_rfl
theorem xI:dT Tryz.prog 198=some (some 16):=by kernel_rfl
theorem vH:dG Tryz.prog 198=some 16:=by kernel_rfl
theorem pO:lC Tryz.prog 5 139=some .u32:=by kernel_rfl
theorem uP (x:W) (k:Int) (G:PM):Ct Tryz.prog 100 ([U x,.int .i64 k]:List Value).toArray G [] (fun _ μ' u=>μ'=[]∧u=U (aIQ x k)):=by
 refine Ct.of Tryz.func100 rfl Tryz.ntmps100 rfl fun w0 hs0=>?_
 refine .g (ci rfl .no rfl aSl (.u rfl) ?_)
 refine bw (k:=.u64) (b:=31#64) rfl .no rfl (.u rfl) (.u rfl) rfl (.g (lw (k:=.u32) rfl .no rfl (.u rfl) (.u rfl) (fun _=>Int.natCast_nonneg _) ?_))
 refine .p (bw (k:=.u64) (a:=32#64) rfl .no rfl (.u rfl) (.u rfl) rfl (iC (k:=.u32) rfl .no (.u rfl) (.u rfl) (fun _=>Int.natCast_nonneg _) ?_))
 refine bw (k:=.u32) rfl .no rfl (.u rfl) (.u rfl) rfl (aS rfl rfl (.nc (.ret (aP Tryz.results100 (.tmp rfl .nil) ?_))))
 exact ⟨rfl,rfl⟩
theorem zA (a b c d:W) (G:PM):Ct Tryz.prog 151 ([U a,U b,U c,U d]:List Value).toArray G [] (fun _ μ' u=>μ'=[]∧u=aOJ (wL a b c d)):=by
 refine Ct.of Tryz.func151 rfl Tryz.ntmps151 rfl fun w0 hs0=>?_
 refine .g (bw (k:=.u32) rfl .no rfl (.u rfl) (.u rfl) rfl (.g (bw (k:=.u32) rfl .no rfl (.u rfl) (.u rfl) rfl (kV rfl vE (aB rfl (aB rfl aE)) (uP _ _ _) ?_))))
 refine .g (bw (k:=.u32) rfl .no rfl (.u rfl) (.u rfl) rfl (.g (bw (k:=.u32) rfl .no rfl (.u rfl) (.u rfl) rfl (kV rfl vE (aB rfl (aB rfl aE)) (uP _ _ _) ?_))))
 refine .g (bw (k:=.u32) rfl .no rfl (.u rfl) (.u rfl) rfl (.g (bw (k:=.u32) rfl .no rfl (.u rfl) (.u rfl) rfl (kV rfl vE (aB rfl (aB rfl aE)) (uP _ _ _) ?_))))
 refine .g (bw (k:=.u32) rfl .no rfl (.u rfl) (.u rfl) rfl (.g (bw (k:=.u32) rfl .no rfl (.u rfl) (.u rfl) rfl (kV rfl vE (aB rfl (aB rfl aE)) (uP _ _ _) ?_))))
 refine aS rfl rfl (.nc (.seq (rq8 rfl rfl (mV rfl rfl (mV rfl rfl (mV rfl rfl (mV rfl rfl (aS rfl rfl (aS rfl rfl (aS rfl rfl (aS rfl rfl (.nc (.ret (aP Tryz.results151 (.tmp rfl (.tmp rfl (.tmp rfl (.tmp rfl .nil)))) ?_))))))))))))))
 exact ⟨rfl,rfl⟩
theorem aBl (x:W) (k:Nat) (G:PM) (hk:k≤32):Ct Tryz.prog 156 ([U x,.int .i64 (k:Int)]:List Value).toArray G [] (fun _ μ' u=>μ'=[]∧u=U (pK x k)):=by
 refine Ct.of Tryz.func156 rfl Tryz.ntmps156 rfl fun w0 hs0=>?_
 refine .g (bG (mc:=⟨false,false⟩) [0,1,2,3,4,5,6,7,8] aV (by kernel_rfl) ?_)
 refine .p (lw (k:=.u32) rfl .no rfl (.u rfl) (.u rfl) (by omega) ?_)
 refine .p (aR rfl rfl rfl rfl ?_)
 refine iC (k:=.u32) rfl .no (.u rfl) (.u rfl) (by omega) ?_
 refine bw (k:=.u32) rfl .no rfl (.u rfl) (.u rfl) rfl (aS rfl rfl (.nc (.ret (aP Tryz.results156 (.tmp rfl .nil) ?_))))
 exact ⟨rfl,aRv x hk⟩
theorem aHq (y:Nat→W) (a b c d:Nat) (ia ib ic id:Int) (G:PM) (ea:ia=(a:Int)) (eb0:ib=(b:Int)) (ec:ic=(c:Int)) (ed:id=(d:Int)) (ha:a<16) (hb:b<16) (hc0:c<16) (hd:d<16):Ct Tryz.prog 154 ([.agg (wa 16 y).toArray,.int .i64 ia,.int .i64 ib,.int .i64 ic,.int .i64 id]:List Value).toArray G [] (fun _ μ' u=>μ'=[]∧u=.agg (wa 16 (rQ y a b c d)).toArray):=by
 refine Ct.of Tryz.func154 rfl Tryz.ntmps154 rfl fun w0 hs0=>?_
 refine .seq (bD rfl rfl ?_)
 refine bX rfl rfl rfl ?_; intro b5
 refine al rfl aAY ?_; intro b10
 refine .g (bG (mc:=⟨false,false⟩) [0,1,2,3,4,5,6,7,8,9] aV (by kernel_rfl) ?_)
 refine .p (iW rfl bY rfl rfl ?_)
 refine lO rfl bI rfl aF (bF a (by omega) (by omega)) ?_
 refine .p (iW rfl bY rfl rfl ?_)
 refine lO rfl bI rfl aF (bF b (by omega) (by omega)) ?_
 refine bw (k:=.u32) rfl .no rfl (.u rfl) (.u rfl) rfl (iW rfl bY rfl rfl ?_)
 refine s1 rfl (.u rfl) (.u rfl) rfl eC aF (by rw [bO]; omega) (cU a (by omega)) ?_
 refine .g (bG (mc:=⟨false,false⟩) [0,1,2,3,4,5,6,7,8,9,10] aV (by kernel_rfl) ?_)
 refine .p (iW rfl bY rfl rfl ?_)
 refine lO rfl bI rfl .here (bF d (by omega) (by omega)) ?_
 refine .p (iW rfl bY rfl rfl ?_)
 refine lO rfl bI rfl .here (bF a (by omega) (by omega)) ?_
 refine bw (k:=.u32) rfl .no rfl (.u rfl) (.u rfl) rfl (kV rfl aB3 (aB rfl (aB rfl aE)) (aBl _ 16 _ (by decide)) ?_)
 refine iW rfl bY rfl rfl ?_
 refine s1 rfl (.u rfl) (.u rfl) rfl eC .here (by rw [bO]; omega) (cU d (by omega)) ?_
 refine .g (bG (mc:=⟨false,false⟩) [0,1,2,3,4,5,6,7,8,9] aV (by kernel_rfl) ?_)
 refine .p (iW rfl bY rfl rfl ?_)
 refine lO rfl bI rfl .here (bF c (by omega) (by omega)) ?_
 refine .p (iW rfl bY rfl rfl ?_)
 refine lO rfl bI rfl .here (bF d (by omega) (by omega)) ?_
 refine bw (k:=.u32) rfl .no rfl (.u rfl) (.u rfl) rfl (iW rfl bY rfl rfl ?_)
 refine s1 rfl (.u rfl) (.u rfl) rfl eC .here (by rw [bO]; omega) (cU c (by omega)) ?_
 refine .g (bG (mc:=⟨false,false⟩) [0,1,2,3,4,5,6,7,8,9,10] aV (by kernel_rfl) ?_)
 refine .p (iW rfl bY rfl rfl ?_)
 refine lO rfl bI rfl .here (bF b (by omega) (by omega)) ?_
 refine .p (iW rfl bY rfl rfl ?_)
 refine lO rfl bI rfl .here (bF c (by omega) (by omega)) ?_
 refine bw (k:=.u32) rfl .no rfl (.u rfl) (.u rfl) rfl (kV rfl aB3 (aB rfl (aB rfl aE)) (aBl _ 12 _ (by decide)) ?_)
 refine iW rfl bY rfl rfl ?_
 refine s1 rfl (.u rfl) (.u rfl) rfl eC .here (by rw [bO]; omega) (cU b (by omega)) ?_
 refine .g (bG (mc:=⟨false,false⟩) [0,1,2,3,4,5,6,7,8,9] aV (by kernel_rfl) ?_)
 refine .p (iW rfl bY rfl rfl ?_)
 refine lO rfl bI rfl .here (bF a (by omega) (by omega)) ?_
 refine .p (iW rfl bY rfl rfl ?_)
 refine lO rfl bI rfl .here (bF b (by omega) (by omega)) ?_
 refine bw (k:=.u32) rfl .no rfl (.u rfl) (.u rfl) rfl (iW rfl bY rfl rfl ?_)
 refine s1 rfl (.u rfl) (.u rfl) rfl eC .here (by rw [bO]; omega) (cU a (by omega)) ?_
 refine .g (bG (mc:=⟨false,false⟩) [0,1,2,3,4,5,6,7,8,9,10] aV (by kernel_rfl) ?_)
 refine .p (iW rfl bY rfl rfl ?_)
 refine lO rfl bI rfl .here (bF d (by omega) (by omega)) ?_
 refine .p (iW rfl bY rfl rfl ?_)
 refine lO rfl bI rfl .here (bF a (by omega) (by omega)) ?_
 refine bw (k:=.u32) rfl .no rfl (.u rfl) (.u rfl) rfl (kV rfl aB3 (aB rfl (aB rfl aE)) (aBl _ 8 _ (by decide)) ?_)
 refine iW rfl bY rfl rfl ?_
 refine s1 rfl (.u rfl) (.u rfl) rfl eC .here (by rw [bO]; omega) (cU d (by omega)) ?_
 refine .g (bG (mc:=⟨false,false⟩) [0,1,2,3,4,5,6,7,8,9] aV (by kernel_rfl) ?_)
 refine .p (iW rfl bY rfl rfl ?_)
 refine lO rfl bI rfl .here (bF c (by omega) (by omega)) ?_
 refine .p (iW rfl bY rfl rfl ?_)
 refine lO rfl bI rfl .here (bF d (by omega) (by omega)) ?_
 refine bw (k:=.u32) rfl .no rfl (.u rfl) (.u rfl) rfl (iW rfl bY rfl rfl ?_)
 refine s1 rfl (.u rfl) (.u rfl) rfl eC .here (by rw [bO]; omega) (cU c (by omega)) ?_
 refine .g (bG (mc:=⟨false,false⟩) [0,1,2,3,4,5,6,7,8,9,10] aV (by kernel_rfl) ?_)
 refine .p (iW rfl bY rfl rfl ?_)
 refine lO rfl bI rfl .here (bF b (by omega) (by omega)) ?_
 refine .p (iW rfl bY rfl rfl ?_)
 refine lO rfl bI rfl .here (bF c (by omega) (by omega)) ?_
 refine bw (k:=.u32) rfl .no rfl (.u rfl) (.u rfl) rfl (kV rfl aB3 (aB rfl (aB rfl aE)) (aBl _ 7 _ (by decide)) ?_)
 refine iW rfl bY rfl rfl ?_
 refine s1 rfl (.u rfl) (.u rfl) rfl eC .here (by rw [bO]; omega) (cU b (by omega)) ?_
 refine .g (lB rfl xI rfl .here ?_)
 refine sw rfl (.u rfl) (.u rfl) rfl vH aF rfl (nA _ _) ?_
 refine .nil (.code (.ret (aP Tryz.results154 (.cell rfl (fun w hw=>bW xI (RdN.own .here) rfl hw) .nil) ?_)))
 exact ⟨rfl,rfl⟩
theorem aSL (h:Sh) (xs:List Y) (j:Int) (k:Nat) (G:PM) (hs:SlR G 1 aL h xs) (hj:j=(k:Int)) (hk:k+3<xs.length) (hl:xs.length≤140737488351232):Ct Tryz.prog 153 ([h.val xs.length,.int .i64 j]:List Value).toArray G [] (fun _ μ' u=>μ'=[]∧u=U (qN (fun i=>xs.getD i 0) k)):=by
 refine Ct.of Tryz.func153 rfl Tryz.ntmps153 rfl fun w0 hs0=>?_
 refine .g (bG (mc:=⟨false,false⟩) [0,1,2,3,4,5,6,7,8,9,10,11,12,13,14,15,16,17,18,19,20,21,22,23,24,25,26,27,28,29] aV (by kernel_rfl) ?_)
 refine mV rfl rfl (mV rfl rfl (ih rfl .no aH (.u rfl) (.u rfl) (by omega) (by omega) (fun _=>hs.nn (k:=k) (by omega)) ?_))
 refine lN rfl cA rfl ((hs.yat (k) (by omega) (by omega)).rd) ?_
 refine cu (k:=.u8) rfl .no rfl pO (.u rfl) ?_
 refine .p (aR rfl rfl rfl rfl ?_)
 refine ih rfl .no aH (.u rfl) (.u rfl) (by omega) (by omega) (fun _=>hs.nn (k:=k+1) (by omega)) ?_
 refine lN rfl cA rfl ((hs.yat (k+1) (by omega) (by omega)).rd) ?_
 refine cu (k:=.u8) rfl .no rfl pO (.u rfl) ?_
 refine bw (k:=.u32) (b:=256#32) rfl .no rfl (.u rfl) (.u rfl) rfl (bw (k:=.u32) rfl .no rfl (.u rfl) (.u rfl) rfl (.p (aR rfl rfl rfl rfl ?_)))
 refine ih rfl .no aH (.u rfl) (.u rfl) (by omega) (by omega) (fun _=>hs.nn (k:=k+2) (by omega)) ?_
 refine lN rfl cA rfl ((hs.yat (k+2) (by omega) (by omega)).rd) ?_
 refine cu (k:=.u8) rfl .no rfl pO (.u rfl) ?_
 refine bw (k:=.u32) (b:=65536#32) rfl .no rfl (.u rfl) (.u rfl) rfl (bw (k:=.u32) rfl .no rfl (.u rfl) (.u rfl) rfl (.p (aR rfl rfl rfl rfl ?_)))
 refine ih rfl .no aH (.u rfl) (.u rfl) (by omega) (by omega) (fun _=>hs.nn (k:=k+3) (by omega)) ?_
 refine lN rfl cA rfl ((hs.yat (k+3) (by omega) (by omega)).rd) ?_
 refine cu (k:=.u8) rfl .no rfl pO (.u rfl) ?_
 refine bw (k:=.u32) (b:=16777216#32) rfl .no rfl (.u rfl) (.u rfl) rfl (bw (k:=.u32) rfl .no rfl (.u rfl) (.u rfl) rfl (aS rfl rfl (.nc (.ret (aP Tryz.results153 (.tmp rfl .nil) ?_)))))
 exact ⟨rfl,rfl⟩
theorem rA:iS Tryz.prog 188=some (ba 64 (fun _=>0#8)):=by kernel_rfl
theorem aJ3:fX Tryz.prog 198 [0,1,2,3]=some ([.int .u32 0,.int .u32 0,.int .u32 0,.int .u32 0,.int .u32 0,.int .u32 0,.int .u32 0,.int .u32 0,.int .u32 0,.int .u32 0,.int .u32 0,.int .u32 0,.int .u32 0,.int .u32 0,.int .u32 0,.int .u32 0],[(0,1),(1,1),(2,1),(3,1)]):=by kernel_rfl
theorem tG:iG Tryz.prog 22=some (32,5,1):=by kernel_rfl
theorem aKd:aQ Tryz.prog 153=true:=by kernel_rfl
theorem aJ2:iG Tryz.prog 124=some (12,5,1):=by kernel_rfl
theorem aKe:aQ Tryz.prog 154=true:=by kernel_rfl
theorem vA:lC Tryz.prog 139 5=some .u8:=by kernel_rfl
theorem jE:iG Tryz.prog 188=some (64,5,1):=by kernel_rfl
theorem fW:dG Tryz.prog 5=some 1:=by kernel_rfl
theorem gI:dT Tryz.prog 188=some (some 64):=by kernel_rfl
theorem jL:dG Tryz.prog 188=some 64:=by kernel_rfl
theorem bK:(cG Tryz.prog 34).isSome=true:=by kernel_rfl
theorem uY:dT Tryz.prog 22=some (some 32):=by kernel_rfl
theorem aJ1:dT Tryz.prog 124=some (some 12):=by kernel_rfl
theorem aEd:lC Tryz.prog 3 139=some .u32:=by kernel_rfl
theorem aS7:aQ Tryz.prog 138=true:=by kernel_rfl
theorem aJk (b n:Nat) (T:TypeId) (f:Nat→Y) (j:Int) (k:Nat) (G:PM) (hj:j=((4*k:Nat):Int)) (hk:4*k+3<n) (hn:n≤1000):Ct Tryz.prog 153 ([.slice (some ⟨b,0,none⟩) n n,.int .i64 j]:List Value).toArray (G.add b (cl (ba n f) T)) [] (fun _ μ' u=>μ'=[]∧u=U (qN f (4*k))):=by
 have hw:=aSL ⟨some ⟨b,0,none⟩,n⟩ (yl n f) j (4*k) (G.add b (cl (ba n f) T)) aCQ hj (by rw [bB]; exact hk) (by rw [bB]; omega)
 rw [aSK (f':=f) (fun j hj=>aEQ (by omega)),bB] at hw
 exact hw
theorem aPS (key nonce:Nat→Y) (count:W) (G:PM):Ct Tryz.prog 138 ([.agg (ba 32 key).toArray,.agg (ba 12 nonce).toArray,U count]:List Value).toArray G [] (fun _ μ' u=>μ'=[]∧u=.agg (ba 64 (jO key nonce count)).toArray):=by
 refine Ct.of Tryz.func138 rfl Tryz.ntmps138 rfl fun w0 hs0=>?_
 refine .seq (eH rfl rfl ?_)
 refine bX rfl rfl rfl ?_; intro b3
 refine bX rfl rfl rfl ?_; intro b4
 refine al rfl rA ?_; intro b6
 refine .g (bC rfl .no aJ3 (.cons (.u rfl) rfl (.cons (.u rfl) rfl (.cons (.u rfl) rfl (.cons (.u rfl) rfl .nil)))) rfl ?_)
 refine al rfl aAY ?_; intro b7
 refine sw rfl (.u rfl) (.u rfl) rfl vH .here rfl (by decide) ?_
 refine .nil (.code (.seq (.seq (aM rfl rfl (aS rfl rfl (.nc (.block ?_)))))))
 refine bE (α:=Nat) (fun k=>[(8,true,.int .i64 (k:Int))]) (fun k=>[.blk b7 (cl (wa 16 (x1 key k)) 198)])
  (fun k Gl=>k≤8) (fun k=>8-k) 0 [(2,true,_),(3,true,_),(4,true,_),(6,true,_),(7,true,_)] [.blk b6 _,.blk b4 _,.blk b3 _]
  (aA rfl (aA rfl (aA rfl (aA rfl (aA rfl (aA rfl eZ))))))
  (mS .here rfl (mS .here rfl (mS .here rfl (mS .here rfl mN)))) ?_ ?_
 ·show 0≤8; omega
 intro k N0 Gl0 hN0 hGl0 hF0
 try dsimp only at hF0 hN0 ⊢
 have hk:k≤8:=hF0
 refine .g (cP rfl rfl rfl rfl (.g (cD rfl (fun c1=>?_) (fun c1=>?_))))
 ·have c1k:=c1
  try simp only [aC] at c1
  refine .g (aR rfl rfl rfl rfl ?_)
  refine lY rfl .no tG (.u rfl) (.p (aR rfl rfl rfl rfl ?_))
  refine kp rfl .no aKd (aB rfl (aB rfl aE)) (Gp.add bM Gp.nil) (fun _ hle hq=>aJk _ _ _ key _ k _ (by omega) (by omega) (by decide)) ?_
  refine iW rfl bY rfl rfl ?_
  refine s1 rfl (.u rfl) (.u rfl) rfl eC .here (by rw [bO]; omega) (cU (4+k) (by omega)) ?_
  refine .g (aR rfl rfl rfl rfl ?_)
  refine .g (aZ (k+1) ?_ ?_ ?_ ?_ ?_)
  ·exact (aA rfl (aA rfl (aA rfl (aA rfl (aA rfl (aA rfl eZ))))))
  ·exact (mS .here rfl (mS .here rfl (mS .here rfl (mS .here rfl mN))))
  ·first|omega|(dsimp only; omega)
  ·exact hGl0
  show k+1≤8; omega
 have c1k:=c1
 try simp only [aC] at c1
 refine .exit (.xcode (.xlp (.xblk (.code (.seq (eH rfl rfl ?_))))))
 obtain rfl:k=8:=by omega
 refine .p (iW rfl bY rfl rfl ?_)
 refine s1 rfl (.u rfl) (.u rfl) rfl eC .here (by rw [bO]; decide) (cU 12 rfl) ?_
 refine .nil (.code (.seq (.seq (aM rfl rfl (aS rfl rfl (.nc (.block ?_)))))))
 refine bE (α:=Nat) (fun j=>[(9,true,.int .i64 (j:Int))]) (fun j=>[.blk b7 (cl (wa 16 (x2 key nonce count j)) 198)])
  (fun j Gl=>j≤3) (fun j=>3-j) 0 [(4,true,_),(6,true,_),(7,true,_)] [.blk b6 _,.blk b4 _,.blk b3 _]
  (aA rfl (aA rfl (aA rfl (aA rfl eZ))))
  (mS .here rfl (mS .here rfl (mS .here rfl (mS .here rfl mN)))) ?_ ?_
 ·show 0≤3; omega
 intro j N1 Gl1 hN1 hGl1 hF1
 try dsimp only at hF1 hN1 ⊢
 have hj:j≤3:=hF1
 refine .g (cP rfl rfl rfl rfl (.g (cD rfl (fun c2=>?_) (fun c2=>?_))))
 ·have c2k:=c2
  try simp only [aC] at c2
  refine .g (aR rfl rfl rfl rfl ?_)
  refine lY rfl .no aJ2 (.u rfl) (.p (aR rfl rfl rfl rfl ?_))
  refine kp rfl .no aKd (aB rfl (aB rfl aE)) (Gp.add aT Gp.nil) (fun _ hle hq=>aJk _ _ _ nonce _ j _ (by omega) (by omega) (by decide)) ?_
  refine iW rfl bY rfl rfl ?_
  refine s1 rfl (.u rfl) (.u rfl) rfl eC .here (by rw [bO]; omega) (cU (13+j) (by omega)) ?_
  refine .g (aR rfl rfl rfl rfl ?_)
  refine .g (aZ (j+1) ?_ ?_ ?_ ?_ ?_)
  ·exact (aA rfl (aA rfl (aA rfl (aA rfl eZ))))
  ·exact (mS .here rfl (mS .here rfl (mS .here rfl (mS .here rfl mN))))
  ·first|omega|(dsimp only; omega)
  ·exact hGl1
  show j+1≤3; omega
 have c2k:=c2
 try simp only [aC] at c2
 refine .exit (.xcode (.xlp (.xblk (.code (.seq (eH rfl rfl ?_))))))
 obtain rfl:j=3:=by omega
 refine lB rfl xI rfl .here ?_
 refine al rfl aAY ?_; intro b10
 refine sw rfl (.u rfl) (.u rfl) rfl vH .here rfl (nA _ _) ?_
 refine .nil (.code (.seq (.seq (aM rfl rfl (aS rfl rfl (.nc (.block ?_)))))))
 refine bE (α:=Nat) (fun r=>[(11,true,.int .i64 (r:Int))]) (fun r=>[.blk b10 (cl (wa 16 (nN (x2 key nonce count 3) r)) 198)])
  (fun r Gl=>r≤10) (fun r=>10-r) 0 [(6,true,_),(7,true,_),(10,true,_)] [.blk b7 _,.blk b6 _,.blk b4 _,.blk b3 _]
  (aA rfl (aA rfl (aA rfl (aA rfl eZ))))
  (mS .here rfl (mS .here rfl (mS .here rfl (mS .here rfl (mS .here rfl mN))))) ?_ ?_
 ·show 0≤10; omega
 intro r N2 Gl2 hN2 hGl2 hF2
 try dsimp only at hF2 hN2 ⊢
 have hr:r≤10:=hF2
 refine .g (cP rfl rfl rfl rfl (.g (cD rfl (fun c3=>?_) (fun c3=>?_))))
 ·have c3k:=c3
  try simp only [aC] at c3
  refine .skip (.code (.seq (.block (.seq (.seq (aM rfl rfl (aS rfl rfl (.nc (.block ?_)))))))))
  refine bE (α:=Nat) (fun q=>[(12,true,.int .i64 (q:Int))]) (fun q=>[.blk b10 (cl (wa 16 (rG (nN (x2 key nonce count 3) r) q)) 198)])
   (fun q Gl=>q≤4) (fun q=>4-q) 0 [(6,true,_),(7,true,_),(10,true,_),(11,true,_)] [.blk b7 _,.blk b6 _,.blk b4 _,.blk b3 _]
   (aA rfl (aA rfl (aA rfl (aA rfl (aA rfl eZ)))))
   (mS .here rfl (mS .here rfl (mS .here rfl (mS .here rfl (mS .here rfl mN))))) ?_ ?_
  ·show 0≤4; omega
  intro q N3 Gl3 hN3 hGl3 hF3
  try dsimp only at hF3 hN3 ⊢
  have hq:q≤4:=hF3
  refine .g (cP rfl rfl rfl rfl (.g (cD rfl (fun c4=>?_) (fun c4=>?_))))
  ·have c4k:=c4
   try simp only [aC] at c4
   refine .g (lB rfl xI rfl .here ?_)
   refine .p (aR rfl rfl rfl rfl ?_)
   refine .p (aR rfl rfl rfl rfl ?_)
   refine .p (aR rfl rfl rfl rfl ?_)
   refine kv rfl .no aKe (aB rfl (aB rfl (aB rfl (aB rfl (aB rfl aE))))) (fun _=>aHq (rG (nN (x2 key nonce count 3) r) q) q (4+q) (8+q) (12+q) _ _ _ _ _ (by first|rfl|omega) (by omega) (by omega) (by omega) (by omega) (by omega) (by omega) (by omega)) ?_
   refine sw rfl (.u rfl) (.u rfl) rfl vH .here rfl (nA _ _) ?_
   refine .g (aR rfl rfl rfl rfl ?_)
   refine .g (aZ (q+1) ?_ ?_ ?_ ?_ ?_)
   ·exact (aA rfl (aA rfl (aA rfl (aA rfl (aA rfl eZ)))))
   ·exact (mS .here rfl (mS .here rfl (mS .here rfl (mS .here rfl (mS .here rfl mN)))))
   ·first|omega|(dsimp only; omega)
   ·exact hGl3
   show q+1≤4; omega
  have c4k:=c4
  try simp only [aC] at c4
  refine .exit (.xcode (.xlp (.xblk (.code (.seq (aM rfl rfl ?_))))))
  obtain rfl:q=4:=by omega
  refine aS rfl rfl (.nc (.block ?_))
  refine bE (α:=Nat) (fun p=>[(13,true,.int .i64 (p:Int))]) (fun p=>[.blk b10 (cl (wa 16 (vT (rG (nN (x2 key nonce count 3) r) 4) p)) 198)])
   (fun p Gl=>p≤4) (fun p=>4-p) 0 [(6,true,_),(7,true,_),(10,true,_),(11,true,_)] [.blk b7 _,.blk b6 _,.blk b4 _,.blk b3 _]
   (aA rfl (aA rfl (aA rfl (aA rfl (aA rfl eZ)))))
   (mS .here rfl (mS .here rfl (mS .here rfl (mS .here rfl (mS .here rfl mN))))) ?_ ?_
  ·show 0≤4; omega
  intro p N4 Gl4 hN4 hGl4 hF4
  try dsimp only at hF4 hN4 ⊢
  have hp:p≤4:=hF4
  refine .g (cP rfl rfl rfl rfl (.g (cD rfl (fun c5=>?_) (fun c5=>?_))))
  ·have c5k:=c5
   try simp only [aC] at c5
   refine .g (lB rfl xI rfl .here ?_)
   refine .p (aR rfl rfl rfl rfl ?_)
   refine rm rfl .no (.u rfl) (.u rfl) (fun _=>by decide) ?_
   refine ar rfl .no (.u rfl) (.u rfl) rfl (fun _=>cB (by rw [nQ (p+1) (by omega)]; omega) (by rw [nQ (p+1) (by omega)]; omega)) ?_
   refine .p (aR rfl rfl rfl rfl ?_)
   refine rm rfl .no (.u rfl) (.u rfl) (fun _=>by decide) ?_
   refine ar rfl .no (.u rfl) (.u rfl) rfl (fun _=>cB (by rw [nQ (p+2) (by omega)]; omega) (by rw [nQ (p+2) (by omega)]; omega)) ?_
   refine .p (aR rfl rfl rfl rfl ?_)
   refine rm rfl .no (.u rfl) (.u rfl) (fun _=>by decide) ?_
   refine ar rfl .no (.u rfl) (.u rfl) rfl (fun _=>cB (by rw [nQ (p+3) (by omega)]; omega) (by rw [nQ (p+3) (by omega)]; omega)) ?_
   refine kv rfl .no aKe (aB rfl (aB rfl (aB rfl (aB rfl (aB rfl aE))))) (fun _=>aHq (vT (rG (nN (x2 key nonce count 3) r) 4) p) p (4+(p+1)%4) (8+(p+2)%4) (12+(p+3)%4) _ _ _ _ _ (by first|rfl|omega) (by rw [nQ (p+1) (by omega)]; omega) (by rw [nQ (p+2) (by omega)]; omega) (by rw [nQ (p+3) (by omega)]; omega) (by omega) (by omega) (by omega) (by omega)) ?_
   refine sw rfl (.u rfl) (.u rfl) rfl vH .here rfl (nA _ _) ?_
   refine .g (aR rfl rfl rfl rfl ?_)
   refine .g (aZ (p+1) ?_ ?_ ?_ ?_ ?_)
   ·exact (aA rfl (aA rfl (aA rfl (aA rfl (aA rfl eZ)))))
   ·exact (mS .here rfl (mS .here rfl (mS .here rfl (mS .here rfl (mS .here rfl mN)))))
   ·first|omega|(dsimp only; omega)
   ·exact hGl4
   show p+1≤4; omega
  have c5k:=c5
  try simp only [aC] at c5
  refine .g (aR rfl rfl rfl rfl ?_)
  refine aS rfl rfl (.nil ?_)
  obtain rfl:p=4:=by omega
  refine aZ (r+1) ?_ ?_ ?_ ?_ ?_
  ·exact (aA rfl (aA rfl (aA rfl (aA rfl eZ))))
  ·exact (mS .here rfl (mS .here rfl (mS .here rfl (mS .here rfl (mS .here rfl mN)))))
  ·first|omega|(dsimp only; omega)
  ·exact hGl2.trans (hGl3.trans hGl4)
  show r+1≤10; omega
 have c3k:=c3
 try simp only [aC] at c3
 refine .exit (.xcode (.xlp (.xblk (.code (.seq (aM rfl rfl ?_))))))
 obtain rfl:r=10:=by omega
 refine al rfl rA ?_; intro b14
 refine .nil (.code (.seq (.seq (aM rfl rfl (aS rfl rfl (.nc (.block ?_)))))))
 refine bE (α:=Nat) (fun i=>[(15,true,.int .i64 (i:Int))]) (fun i=>[.blk b14 (cl (ba 64 (fQ (jO key nonce count) i)) 188)])
  (fun i Gl=>i≤64) (fun i=>64-i) 0 [(6,true,_),(7,true,_),(10,true,_),(14,true,_)] [.blk b10 _,.blk b7 _,.blk b6 _,.blk b4 _,.blk b3 _]
  (aA rfl (aA rfl (aA rfl (aA rfl (aA rfl eZ)))))
  (mS .here rfl (mS .here rfl (mS .here rfl (mS .here rfl (mS .here rfl (mS .here rfl mN)))))) ?_ ?_
 ·show 0≤64; omega
 intro i N5 Gl5 hN5 hGl5 hF5
 try dsimp only at hF5 hN5 ⊢
 have hi:i≤64:=hF5
 refine .g (cP rfl rfl rfl rfl (.g (cD rfl (fun c6=>?_) (fun c6=>?_))))
 ·have c6k:=c6
  try simp only [aC] at c6
  refine .g (bG (mc:=⟨false,false⟩) [0,1,2,3,4,5,6,7,8,9] aV (by kernel_rfl) ?_)
  refine .p (qu rfl .no (.u rfl) (.u rfl) (fun _=>by decide) ?_)
  refine iA rfl .no bY (.u rfl) (.u rfl) (fun _=>by rw [wO i rfl (by omega)]; omega) (fun _=>by rw [wO i rfl (by omega)]; omega) ?_
  refine lO rfl bI rfl aF (bF (i / 4) (by rw [wO i rfl (by omega)]; omega) (by omega)) ?_
  refine .p (qu rfl .no (.u rfl) (.u rfl) (fun _=>by decide) ?_)
  refine iA rfl .no bY (.u rfl) (.u rfl) (fun _=>by rw [wO i rfl (by omega)]; omega) (fun _=>by rw [wO i rfl (by omega)]; omega) ?_
  refine lO rfl bI rfl aT (bF (i / 4) (by rw [wO i rfl (by omega)]; omega) (by omega)) ?_
  refine bw (k:=.u32) rfl .no rfl (.u rfl) (.u rfl) rfl (.g (rm rfl .no (.u rfl) (.u rfl) (fun _=>by decide) ?_))
  refine ar rfl .no (.u rfl) (.u rfl) rfl (fun _=>cB (by rw [nQ i rfl]; omega) (by rw [nQ i rfl]; omega)) ?_
  refine iC (k:=.u32) rfl .no (.u rfl) (.u rfl) (fun _=>by rw [nQ i rfl]; omega) ?_
  refine cu (k:=.u32) rfl .no rfl vA (.u rfl) ?_
  refine iW rfl jE rfl rfl ?_
  refine s1 rfl (.u rfl) (.u rfl) rfl fW .here (by rw [aU]; omega) (hH i (by omega)) ?_
  refine .g (aR rfl rfl rfl rfl ?_)
  refine .g (aZ (i+1) ?_ ?_ ?_ ?_ ?_)
  ·exact (aA rfl (aA rfl (aA rfl (aA rfl (aA rfl eZ)))))
  ·exact (mS .here (aOj (nQ i rfl)) (mS .here rfl (mS .here rfl (mS .here rfl (mS .here rfl (mS .here rfl mN))))))
  ·first|omega|(dsimp only; omega)
  ·exact hGl5
  show i+1≤64; omega
 have c6k:=c6
 try simp only [aC] at c6
 refine .g (lB rfl gI rfl .here ?_)
 refine sw rfl (.u rfl) (.u rfl) rfl jL bM rfl (dW _ _) ?_
 refine .nil (.code (.ret (aP Tryz.results138 (.cell rfl (fun w hw=>bW gI (RdN.own .here) rfl hw) .nil) ?_)))
 obtain rfl:i=64:=by omega
 exact ⟨rfl,by rw [iJ (fun i hi=>(jU (jO key nonce count) hi).symm)]; rfl⟩
theorem mH:cG Tryz.prog 137=some (139,1,4):=by kernel_rfl
theorem aTg:(cG Tryz.prog 137).isSome=true:=by kernel_rfl
theorem aKc:aQ Tryz.prog 150=true:=by kernel_rfl
theorem aAQ:aQ Tryz.prog 151=true:=by kernel_rfl
theorem aJl (y:Nat→W) (f:Nat→Y) (m bt bk off n cap kn:Nat) (T T2:TypeId) (G:PM) (hm:off+n≤m) (hk4:4*n≤kn) (hn:n≤1000):Ct Tryz.prog 150 ([(Sh.mk (some ⟨bt,off,none⟩) cap).val n,(Sh.mk (some ⟨bk,0,none⟩) kn).val kn]:List Value).toArray G ([.blk bt (cl (wa m y) T),.blk bk (cl (ba kn f) T2)]:aG) (fun G' μ' u=>μ'=[.blk bt (cl (wa m (mB y f off n)) T),.blk bk (cl (ba kn f) T2)]∧u=.tuple #[]):=by
 refine Ct.of Tryz.func150 rfl Tryz.ntmps150 rfl fun w0 hs0=>?_
 refine .g (lE rfl aTg rfl (mV rfl rfl (.nc (.block ?_))))
 refine bE (α:=Nat) (fun i=>[(8,true,.int .i64 (i:Int))]) (fun i=>[.blk bt (cl (wa m (mB y f off i)) T)])
  (fun i Gl=>i≤n) (fun i=>n-i) 0 [(0,true,_),(1,true,_),(7,true,_)] [.blk bk _]
  (aA rfl (aA rfl (aA rfl (aA rfl eZ))))
  (mS .here rfl (mS .here rfl mN)) ?_ ?_
 ·show 0≤n; omega
 intro i N0 Gl0 hN0 hGl0 hF0
 try dsimp only at hF0 hN0 ⊢
 have hi:i≤n:=hF0
 refine .g (cP rfl rfl rfl rfl (.g (cD rfl (fun c1=>?_) (fun c1=>?_))))
 ·have c1k:=c1
  try simp only [aC] at c1
  refine .skip (.code (.seq (.block (.seq (bD rfl rfl (mV rfl rfl (aS rfl rfl (.nc (.seq (aM rfl rfl (aS rfl rfl (.nc (.block ?_)))))))))))))
  refine bE (α:=Nat) (fun c=>[(5,true,.int .i64 (3-(c:Int)))]) (fun c=>[.blk bt (cl (wa m (bA (mB y f off i) (off+i) (pL (mB y f off i (off+i)) f i c))) T)])
   (fun c Gl=>c≤4) (fun c=>4-c) 0 [(0,true,_),(1,true,_),(4,true,_),(7,true,_),(8,true,_)] [.blk bk _]
   (aA rfl (aA rfl (aA rfl (aA rfl (aA rfl (aA rfl eZ))))))
   (mS .here aSR (mS .here rfl mN)) ?_ ?_
  ·show 0≤4; omega
  intro c N1 Gl1 hN1 hGl1 hF1
  try dsimp only at hF1 hN1 ⊢
  have hc:c≤4:=hF1
  refine .g (cP rfl rfl rfl rfl (.g (cD rfl (fun c2=>?_) (fun c2=>?_))))
  ·have c2k:=c2
   try simp only [aC] at c2
   refine .g (bG (mc:=⟨false,false⟩) [0,1,2,3,4,5,6,7,8,9,10,11,12,13,14,15,16,17] aV (by kernel_rfl) ?_)
   refine mV rfl rfl (mV rfl rfl (mV rfl rfl (mV rfl rfl (ih rfl .no mH (.u rfl) (.u rfl) (by omega) (by omega) (fun _=>rfl) ?_))))
   refine lO rfl bI rfl .here (bF (off+i) (by show off+_*1=off+i; omega) (by omega)) ?_
   refine lw (k:=.u32) rfl .no rfl (.u rfl) (.u rfl) (fun _=>by decide) ?_
   refine .p (aR rfl rfl rfl rfl ?_)
   refine .p (aR rfl rfl rfl rfl ?_)
   refine ih rfl .no aH (.u rfl) (.u rfl) (by omega) (by omega) (fun _=>rfl) ?_
   refine lO rfl cA rfl aF (cM (4*i+(3-c)) (by show 0+_*1=_; omega) (by omega)) ?_
   refine cu (k:=.u8) rfl .no rfl pO (.u rfl) ?_
   refine bw (k:=.u32) rfl .no rfl (.u rfl) (.u rfl) rfl (ih rfl .no mH (.u rfl) (.u rfl) (by omega) (by omega) (fun _=>rfl) ?_)
   refine s1 rfl (.u rfl) (.u rfl) rfl eC .here (by rw [bO]; show off+_*1<m; omega) (cU (off+i) (by show off+_*1=off+i; omega)) ?_
   refine .g (aR rfl rfl rfl rfl ?_)
   refine .g (aZ (c+1) ?_ ?_ ?_ ?_ ?_)
   ·exact (fD rfl (congrArg _ (by omega)) (aA rfl (aA rfl (aA rfl (aA rfl (aA rfl eZ))))))
   ·exact (mS .here (aSS (by rw [uU]; rfl)) (mS .here rfl mN))
   ·first|omega|(dsimp only; omega)
   ·exact hGl1
   show c+1≤4; omega
  have c2k:=c2
  try simp only [aC] at c2
  refine .g (aR rfl rfl rfl rfl ?_)
  refine .g (aZ (i+1) ?_ ?_ ?_ ?_ ?_)
  ·exact (aA rfl (aA rfl (aA rfl (aA rfl eZ))))
  ·exact (mS .here (aSQ (by omega)) (mS .here rfl mN))
  ·first|omega|(dsimp only; omega)
  ·exact hGl0.trans hGl1
  show i+1≤n; omega
 have c1k:=c1
 try simp only [aC] at c1
 refine .g (We.fin Tryz.results150 .nil (mS .here rfl (mS .here rfl mN)) ?_)
 obtain rfl:i=n:=by omega
 exact ⟨rfl,rfl⟩
theorem aJu (key nonce:Nat→Y) (count:W) (G:PM):Ct Tryz.prog 136 ([.agg (ba 32 key).toArray,.agg (ba 12 nonce).toArray,U count]:List Value).toArray G [] (fun _ μ' u=>μ'=[]∧u=.agg (ba 64 (jO key nonce count)).toArray):=by
 refine Ct.of Tryz.func136 rfl Tryz.ntmps136 rfl fun w0 hs0=>?_
 refine .seq (eH rfl rfl ?_)
 refine bX rfl rfl rfl ?_; intro b3
 refine bX rfl rfl rfl ?_; intro b4
 refine al rfl rA ?_; intro b6
 refine .g (bC rfl .no aJ3 (.cons (.u rfl) rfl (.cons (.u rfl) rfl (.cons (.u rfl) rfl (.cons (.u rfl) rfl .nil)))) rfl ?_)
 refine al rfl aAY ?_; intro b7
 refine sw rfl (.u rfl) (.u rfl) rfl vH .here rfl (by decide) ?_
 refine .g (bG (mc:=⟨true,false⟩) [0,1,2] aV (by kernel_rfl) ?_)
 refine sab rfl .no bY (.u rfl) (.u rfl) (.u rfl) (fun _=>by decide) (fun _=>by decide) (fun _=>by decide) (fun _=>by decide) ?_
 refine lY rfl .no tG (.u rfl) (ka rfl (.inl rfl) aKc (aB rfl (aB rfl aE)) (aI6 .here aT) (aJl (x0) key 16 b7 b3 4 8 12 32 198 22 _ (by decide) (by decide) (by decide)) ?_)
 rintro u G2 μ2 hG2 ⟨rfl,rfl⟩
 simp only [cQ,List.cons_append,List.nil_append,aD2,aD3]
 refine .g (iW rfl bY rfl rfl ?_)
 refine s1 rfl (.u rfl) (.u rfl) rfl eC .here (by rw [bO]; decide) (cU 12 rfl) ?_
 refine .g (bG (mc:=⟨true,false⟩) [0,1,2] aV (by kernel_rfl) ?_)
 refine sal rfl .no bY (.u rfl) (.u rfl) (fun _=>by decide) (fun _=>by decide) ?_
 refine lY rfl .no aJ2 (.u rfl) (ka rfl (.inl rfl) aKc (aB rfl (aB rfl aE)) (aI6 .here aT) (aJl (bA (x1 key 8) 12 count) nonce 16 b7 b4 13 3 3 12 198 124 _ (by decide) (by decide) (by decide)) ?_)
 rintro u G2 μ2 hG2 ⟨rfl,rfl⟩
 simp only [cQ,List.cons_append,List.nil_append,aD2,aD3]
 refine .g (lB rfl xI rfl .here ?_)
 refine al rfl aAY ?_; intro b8
 refine sw rfl (.u rfl) (.u rfl) rfl vH .here rfl (nA _ _) ?_
 refine .nil (.code (.seq (.seq (aM rfl rfl (mV rfl rfl (.nc (.block ?_)))))))
 refine bE (α:=Nat) (fun r=>[(24,true,.int .i64 (r:Int))]) (fun r=>[.blk b8 (cl (wa 16 (nN (x2 key nonce count 3) r)) 198)])
  (fun r Gl=>r≤10) (fun r=>10-r) 0 [(6,true,_),(7,true,_),(8,true,_)] [.blk b7 _,.blk b4 _,.blk b3 _,.blk b6 _]
  (aA rfl (aA rfl (aA rfl (aA rfl eZ))))
  (mS .here rfl (mS .here rfl (mS .here rfl (mS .here rfl (mS .here rfl mN))))) ?_ ?_
 ·show 0≤10; omega
 intro r N0 Gl0 hN0 hGl0 hF0
 try dsimp only at hF0 hN0 ⊢
 have hr:r≤10:=hF0
 refine .g (cP rfl rfl rfl rfl (.g (cD rfl (fun c1=>?_) (fun c1=>?_))))
 ·have c1k:=c1
  try simp only [aC] at c1
  refine .skip (.code (.seq (.block (.seq (.seq (aM rfl rfl (mV rfl rfl (.nc (.block ?_)))))))))
  refine bE (α:=Nat) (fun q=>[(26,true,.int .i64 (q:Int))]) (fun q=>[.blk b8 (cl (wa 16 (aAs (nN (x2 key nonce count 3) r) q)) 198)])
   (fun q Gl=>q≤4) (fun q=>4-q) 0 [(6,true,_),(7,true,_),(8,true,_),(24,true,_)] [.blk b7 _,.blk b4 _,.blk b3 _,.blk b6 _]
   (aA rfl (aA rfl (aA rfl (aA rfl (aA rfl eZ)))))
   (mS .here rfl (mS .here rfl (mS .here rfl (mS .here rfl (mS .here rfl mN))))) ?_ ?_
  ·show 0≤4; omega
  intro q N1 Gl1 hN1 hGl1 hF1
  try dsimp only at hF1 hN1 ⊢
  have hq:q≤4:=hF1
  refine .g (cP rfl rfl rfl rfl (.g (cD rfl (fun c2=>?_) (fun c2=>?_))))
  ·have c2k:=c2
   try simp only [aC] at c2
   refine .g (bG (mc:=⟨false,false⟩) [0,1,2,3,4,5,6,7,8,9,10,11,12,13,14,15,16,17,18,19,20,21,22,23,24,25,26,27,28,29,30,31,32,33,34,35] aV (by kernel_rfl) ?_)
   refine .p (aR rfl rfl rfl rfl ?_)
   refine .p (aR rfl rfl rfl rfl ?_)
   refine .p (aR rfl rfl rfl rfl ?_)
   refine .p (iW rfl bY rfl rfl ?_)
   refine lO rfl bI rfl .here (bF q (by omega) (by omega)) ?_
   refine .p (aR rfl rfl rfl rfl ?_)
   refine iW rfl bY rfl rfl ?_
   refine lO rfl bI rfl .here (bF (4+q) (by omega) (by omega)) ?_
   refine .p (aR rfl rfl rfl rfl ?_)
   refine iW rfl bY rfl rfl ?_
   refine lO rfl bI rfl .here (bF (8+q) (by omega) (by omega)) ?_
   refine .p (aR rfl rfl rfl rfl ?_)
   refine iW rfl bY rfl rfl ?_
   refine lO rfl bI rfl .here (bF (12+q) (by omega) (by omega)) ?_
   refine kV rfl aAQ (aB rfl (aB rfl (aB rfl (aB rfl aE)))) (zA _ _ _ _ _) ?_
   refine .p (eX rfl rfl rfl (eX rfl rfl rfl (eX rfl rfl rfl (eX rfl rfl rfl (iW rfl bY rfl rfl ?_)))))
   refine s1 rfl (.u rfl) (.u rfl) rfl eC .here (by rw [bO]; omega) (cU q (by omega)) ?_
   refine iW rfl bY rfl rfl ?_
   refine s1 rfl (.u rfl) (.u rfl) rfl eC .here (by rw [bO]; omega) (cU (4+q) (by omega)) ?_
   refine iW rfl bY rfl rfl ?_
   refine s1 rfl (.u rfl) (.u rfl) rfl eC .here (by rw [bO]; omega) (cU (8+q) (by omega)) ?_
   refine iW rfl bY rfl rfl ?_
   refine s1 rfl (.u rfl) (.u rfl) rfl eC .here (by rw [bO]; omega) (cU (12+q) (by omega)) ?_
   refine .g (aR rfl rfl rfl rfl ?_)
   refine .g (aZ (q+1) ?_ ?_ ?_ ?_ ?_)
   ·exact (aA rfl (aA rfl (aA rfl (aA rfl (aA rfl eZ)))))
   ·exact (mS .here rfl (mS .here rfl (mS .here rfl (mS .here rfl (mS .here rfl mN)))))
   ·first|omega|(dsimp only; omega)
   ·exact hGl1
   show q+1≤4; omega
  have c2k:=c2
  try simp only [aC] at c2
  refine .exit (.xcode (.xlp (.xblk (.code (.seq (kX [0,1,2,3,4,5,6,7,8,9,10,11,12,13,14,15,16,17,18,19,20,21] rfl rfl ?_))))))
  obtain rfl:q=4:=by omega
  simp only [aF0 (nN (x2 key nonce count 3) r) 4 (Nat.le_refl 4)]
  refine iW rfl bY rfl rfl ?_
  refine lO rfl bI rfl .here (bF 0 rfl (by decide)) ?_
  refine iW rfl bY rfl rfl ?_
  refine lO rfl bI rfl .here (bF 5 rfl (by decide)) ?_
  refine iW rfl bY rfl rfl ?_
  refine lO rfl bI rfl .here (bF 10 rfl (by decide)) ?_
  refine iW rfl bY rfl rfl ?_
  refine lO rfl bI rfl .here (bF 15 rfl (by decide)) ?_
  refine kV rfl aAQ (aB rfl (aB rfl (aB rfl (aB rfl aE)))) (zA _ _ _ _ _) ?_
  refine .p (eX rfl rfl rfl (eX rfl rfl rfl (eX rfl rfl rfl (eX rfl rfl rfl (iW rfl bY rfl rfl ?_)))))
  refine s1 rfl (.u rfl) (.u rfl) rfl eC .here (by rw [bO]; decide) (cU 0 rfl) ?_
  refine iW rfl bY rfl rfl ?_
  refine s1 rfl (.u rfl) (.u rfl) rfl eC .here (by rw [bO]; decide) (cU 5 rfl) ?_
  refine iW rfl bY rfl rfl ?_
  refine s1 rfl (.u rfl) (.u rfl) rfl eC .here (by rw [bO]; decide) (cU 10 rfl) ?_
  refine iW rfl bY rfl rfl ?_
  refine s1 rfl (.u rfl) (.u rfl) rfl eC .here (by rw [bO]; decide) (cU 15 rfl) ?_
  refine .g (iW rfl bY rfl rfl ?_)
  refine lO rfl bI rfl .here (bF 1 rfl (by decide)) ?_
  refine iW rfl bY rfl rfl ?_
  refine lO rfl bI rfl .here (bF 6 rfl (by decide)) ?_
  refine iW rfl bY rfl rfl ?_
  refine lO rfl bI rfl .here (bF 11 rfl (by decide)) ?_
  refine iW rfl bY rfl rfl ?_
  refine lO rfl bI rfl .here (bF 12 rfl (by decide)) ?_
  refine kV rfl aAQ (aB rfl (aB rfl (aB rfl (aB rfl aE)))) (zA _ _ _ _ _) ?_
  refine .p (eX rfl rfl rfl (eX rfl rfl rfl (eX rfl rfl rfl (eX rfl rfl rfl (iW rfl bY rfl rfl ?_)))))
  refine s1 rfl (.u rfl) (.u rfl) rfl eC .here (by rw [bO]; decide) (cU 1 rfl) ?_
  refine iW rfl bY rfl rfl ?_
  refine s1 rfl (.u rfl) (.u rfl) rfl eC .here (by rw [bO]; decide) (cU 6 rfl) ?_
  refine iW rfl bY rfl rfl ?_
  refine s1 rfl (.u rfl) (.u rfl) rfl eC .here (by rw [bO]; decide) (cU 11 rfl) ?_
  refine iW rfl bY rfl rfl ?_
  refine s1 rfl (.u rfl) (.u rfl) rfl eC .here (by rw [bO]; decide) (cU 12 rfl) ?_
  refine .g (iW rfl bY rfl rfl ?_)
  refine lO rfl bI rfl .here (bF 2 rfl (by decide)) ?_
  refine iW rfl bY rfl rfl ?_
  refine lO rfl bI rfl .here (bF 7 rfl (by decide)) ?_
  refine iW rfl bY rfl rfl ?_
  refine lO rfl bI rfl .here (bF 8 rfl (by decide)) ?_
  refine iW rfl bY rfl rfl ?_
  refine lO rfl bI rfl .here (bF 13 rfl (by decide)) ?_
  refine kV rfl aAQ (aB rfl (aB rfl (aB rfl (aB rfl aE)))) (zA _ _ _ _ _) ?_
  refine .p (eX rfl rfl rfl (eX rfl rfl rfl (eX rfl rfl rfl (eX rfl rfl rfl (iW rfl bY rfl rfl ?_)))))
  refine s1 rfl (.u rfl) (.u rfl) rfl eC .here (by rw [bO]; decide) (cU 2 rfl) ?_
  refine iW rfl bY rfl rfl ?_
  refine s1 rfl (.u rfl) (.u rfl) rfl eC .here (by rw [bO]; decide) (cU 7 rfl) ?_
  refine iW rfl bY rfl rfl ?_
  refine s1 rfl (.u rfl) (.u rfl) rfl eC .here (by rw [bO]; decide) (cU 8 rfl) ?_
  refine iW rfl bY rfl rfl ?_
  refine s1 rfl (.u rfl) (.u rfl) rfl eC .here (by rw [bO]; decide) (cU 13 rfl) ?_
  refine .g (iW rfl bY rfl rfl ?_)
  refine lO rfl bI rfl .here (bF 3 rfl (by decide)) ?_
  refine iW rfl bY rfl rfl ?_
  refine lO rfl bI rfl .here (bF 4 rfl (by decide)) ?_
  refine iW rfl bY rfl rfl ?_
  refine lO rfl bI rfl .here (bF 9 rfl (by decide)) ?_
  refine iW rfl bY rfl rfl ?_
  refine lO rfl bI rfl .here (bF 14 rfl (by decide)) ?_
  refine kV rfl aAQ (aB rfl (aB rfl (aB rfl (aB rfl aE)))) (zA _ _ _ _ _) ?_
  refine .p (eX rfl rfl rfl (eX rfl rfl rfl (eX rfl rfl rfl (eX rfl rfl rfl (iW rfl bY rfl rfl ?_)))))
  refine s1 rfl (.u rfl) (.u rfl) rfl eC .here (by rw [bO]; decide) (cU 3 rfl) ?_
  refine iW rfl bY rfl rfl ?_
  refine s1 rfl (.u rfl) (.u rfl) rfl eC .here (by rw [bO]; decide) (cU 4 rfl) ?_
  refine iW rfl bY rfl rfl ?_
  refine s1 rfl (.u rfl) (.u rfl) rfl eC .here (by rw [bO]; decide) (cU 9 rfl) ?_
  refine iW rfl bY rfl rfl ?_
  refine s1 rfl (.u rfl) (.u rfl) rfl eC .here (by rw [bO]; decide) (cU 14 rfl) ?_
  refine .g (aR rfl rfl rfl rfl ?_)
  refine .g (aZ (r+1) ?_ ?_ ?_ ?_ ?_)
  ·exact (aA rfl (aA rfl (aA rfl (aA rfl eZ))))
  ·exact (mS .here (congrArg (fun z=>Res.blk b8 (cl (wa 16 z) 198)) (aMr (rG (nN (x2 key nonce count 3) r) 4))) (mS .here rfl (mS .here rfl (mS .here rfl (mS .here rfl mN)))))
  ·first|omega|(dsimp only; omega)
  ·exact hGl0.trans hGl1
  show r+1≤10; omega
 have c1k:=c1
 try simp only [aC] at c1
 refine .exit (.xcode (.xlp (.xblk (.code (.seq (aM rfl rfl ?_))))))
 obtain rfl:r=10:=by omega
 refine al rfl rA ?_; intro b10
 refine .nil (.code (.seq (.seq (aM rfl rfl (mV rfl rfl (.nc (.block ?_)))))))
 refine bE (α:=Nat) (fun i=>[(135,true,.int .i64 (i:Int))]) (fun i=>[.blk b10 (cl (ba 64 (fQ (jO key nonce count) (4*i))) 188)])
  (fun i Gl=>i≤16) (fun i=>16-i) 0 [(6,true,_),(7,true,_),(8,true,_),(10,true,_)] [.blk b8 _,.blk b7 _,.blk b4 _,.blk b3 _,.blk b6 _]
  (aA rfl (aA rfl (aA rfl (aA rfl (aA rfl eZ)))))
  (mS .here rfl (mS .here rfl (mS .here rfl (mS .here rfl (mS .here rfl (mS .here rfl mN)))))) ?_ ?_
 ·show 0≤16; omega
 intro i N2 Gl2 hN2 hGl2 hF2
 try dsimp only at hF2 hN2 ⊢
 have hi:i≤16:=hF2
 refine .g (cP rfl rfl rfl rfl (.g (cD rfl (fun c3=>?_) (fun c3=>?_))))
 ·have c3k:=c3
  try simp only [aC] at c3
  refine .g (bG (mc:=⟨false,false⟩) [0,1,2,3,4,5,6,7] aV (by kernel_rfl) ?_)
  refine .p (iW rfl bY rfl rfl ?_)
  refine lO rfl bI rfl aF (bF i (by omega) (by omega)) ?_
  refine .p (iW rfl bY rfl rfl ?_)
  refine lO rfl bI rfl aT (bF i (by omega) (by omega)) ?_
  refine bw (k:=.u32) rfl .no rfl (.u rfl) (.u rfl) rfl (aS rfl rfl (.nc (.seq (aM rfl rfl (mV rfl rfl (.nc (.block ?_)))))))
  refine bE (α:=Nat) (fun c=>[(12,true,U (yI key nonce count i >>> (8*c))),(145,true,.int .i64 (c:Int))]) (fun c=>[.blk b10 (cl (ba 64 (fQ (jO key nonce count) (4*i+c))) 188)])
   (fun c Gl=>c≤4) (fun c=>4-c) 0 [(6,true,_),(7,true,_),(8,true,_),(10,true,_),(11,true,_),(135,true,_)] [.blk b8 _,.blk b7 _,.blk b4 _,.blk b3 _,.blk b6 _]
   (fD rfl aQ0 (aA rfl (aA rfl (aA rfl (aA rfl (aA rfl (aA rfl (aA rfl eZ))))))))
   (mS .here rfl (mS .here rfl (mS .here rfl (mS .here rfl (mS .here rfl (mS .here rfl mN)))))) ?_ ?_
  ·show 0≤4; omega
  intro c N3 Gl3 hN3 hGl3 hF3
  try dsimp only at hF3 hN3 ⊢
  have hc:c≤4:=hF3
  refine .g (cP rfl rfl rfl rfl (.g (cD rfl (fun c4=>?_) (fun c4=>?_))))
  ·have c4k:=c4
   try simp only [aC] at c4
   refine .g (aR rfl rfl rfl rfl ?_)
   refine .p (aR rfl rfl rfl rfl ?_)
   refine .p (cu (k:=.u32) rfl .no rfl vA (.u rfl) ?_)
   refine iW rfl jE rfl rfl ?_
   refine s1 rfl (.u rfl) (.u rfl) rfl fW .here (by rw [aU]; omega) (hH (4*i+c) (by omega)) ?_
   refine .g (iC (k:=.u32) rfl .no (.u rfl) (.u rfl) (fun _=>by decide) ?_)
   refine .g (aR rfl rfl rfl rfl ?_)
   refine .g (aZ (c+1) ?_ ?_ ?_ ?_ ?_)
   ·exact (fD rfl aQz (aA rfl (aA rfl (aA rfl (aA rfl (aA rfl (aA rfl (aA rfl eZ))))))))
   ·exact (mS .here (aOi (by omega)) (mS .here rfl (mS .here rfl (mS .here rfl (mS .here rfl (mS .here rfl mN))))))
   ·first|omega|(dsimp only; omega)
   ·exact hGl3
   show c+1≤4; omega
  have c4k:=c4
  try simp only [aC] at c4
  refine .g (aR rfl rfl rfl rfl ?_)
  refine mV rfl rfl (.nil ?_)
  obtain rfl:c=4:=by omega
  refine aZ (i+1) ?_ ?_ ?_ ?_ ?_
  ·exact (aA rfl (aA rfl (aA rfl (aA rfl (aA rfl eZ)))))
  ·exact (mS .here rfl (mS .here rfl (mS .here rfl (mS .here rfl (mS .here rfl (mS .here rfl mN))))))
  ·first|omega|(dsimp only; omega)
  ·exact hGl2.trans hGl3
  show i+1≤16; omega
 have c3k:=c3
 try simp only [aC] at c3
 refine .g (lB rfl gI rfl .here ?_)
 refine sw rfl (.u rfl) (.u rfl) rfl jL nP rfl (dW _ _) ?_
 refine .nil (.code (.ret (aP Tryz.results136 (.cell rfl (fun w hw=>bW gI (RdN.own .here) rfl hw) .nil) ?_)))
 obtain rfl:i=16:=by omega
 exact ⟨rfl,by rw [iJ (fun i hi=>(jU (jO key nonce count) hi).symm)]; rfl⟩
theorem aTj:iS Tryz.prog 192=some (wa 64 (fun _=>0#32)):=by kernel_rfl
theorem qR:iG Tryz.prog 192=some (64,139,1):=by kernel_rfl
theorem qX:aQ Tryz.prog 152=true:=by kernel_rfl
theorem oR:cK Tryz.prog 168 0=some 0:=by kernel_rfl
theorem dI:iG Tryz.prog 166=some (8,139,1):=by kernel_rfl
theorem aBz:fX Tryz.prog 166 [0,1,2,3,4,5,6,7]=some ([.int .u32 0,.int .u32 0,.int .u32 0,.int .u32 0,.int .u32 0,.int .u32 0,.int .u32 0,.int .u32 0],[(0,1),(1,1),(2,1),(3,1),(4,1),(5,1),(6,1),(7,1)]):=by kernel_rfl
theorem qH (x:W) (k:Nat) (G:PM) (hk:k∈[2,6,7,11,13,17,18,19,22,25]):Ct Tryz.prog 152 ([U x,.int .i64 (k:Int)]:List Value).toArray G [] (fun _ μ' u=>μ'=[]∧u=U (iH x k)):=by
 refine Ct.of Tryz.func152 rfl Tryz.ntmps152 rfl fun w0 hs0=>?_
 have hk2:k≤31:=by simp only [List.mem_cons,List.not_mem_nil,or_false] at hk; omega
 refine .g (ng rfl .no (.u rfl) (fun _=>cB (by omega) (by omega)) ?_)
 refine kV rfl vE (aB rfl (aB rfl aE)) (uP _ _ _) ?_
 refine aS rfl rfl (.nc (.ret (aP Tryz.results152 (.tmp rfl .nil) ?_)))
 exact ⟨rfl,by rw [← aQC hk]; rfl⟩
set_option maxHeartbeats 1000000 in
theorem aCY (s:Nat→W) (xs:List Y) (h:Sh) (vp nn:Value) (bs:Nat) (G:PM) (hs:SlR G 1 aL h xs) (hK:RdNP G 1 0 (wa 64 kW)) (hl:64≤xs.length):Ct Tryz.prog 137 ([.pointer (some ⟨bs,0,none⟩),h.val xs.length]:List Value).toArray G [.blk bs (cl (wa 8 s++[vp,nn]) 168)] (fun _ μ' u=>μ'=[.blk bs (cl (wa 8 (oM s (fun i=>xs.getD i 0))++[vp,nn]) 168)]∧u=.tuple #[]):=by
 refine Ct.of Tryz.func137 rfl Tryz.ntmps137 rfl fun w0 hs0=>?_
 refine .seq (aM rfl rfl ?_)
 refine al rfl aTj ?_; intro b4
 refine .nil (.code (.seq (.seq (aM rfl rfl (mV rfl rfl (.nc (.block ?_)))))))
 refine bE (α:=Nat×(Nat→W)) (fun gh=>[(24,true,.int .i64 (gh.1:Int))]) (fun gh=>[.blk b4 (cl (wa 64 gh.2) 192)])
  (fun gh Gl=>(gh.1≤16)∧(gh.2=nR (fun i=>xs.getD i 0) gh.1)) (fun gh=>16-gh.1) (0,fun _=>0#32) [(0,true,_),(1,true,_),(4,true,_)] [_]
  (aO rfl (aA rfl (aA rfl (aA rfl eZ))))
  (mS .here rfl (mS .here rfl mN)) ?_ ?_
 ·refine ⟨?_,?_⟩
  ·(try dsimp only)<;>(first|omega|rfl|assumption|(simp; done))
  (try dsimp only)<;>(first|omega|rfl|assumption|(simp; done))
 intro gh N0 Gl0 hN0 hGl0 hF0
 obtain ⟨k,y⟩:=gh; dsimp only at hF0 hN0 ⊢
 obtain ⟨hk,ey⟩:=hF0
 have hs:=hs.mono hGl0
 have hK:=hK.mono hGl0
 refine .g (cP rfl rfl rfl rfl (.g (cD rfl (fun c1=>?_) (fun c1=>?_))))
 ·have c1k:=c1
  try simp only [aC,aD] at c1
  refine .g (aW (((4*k):Nat):Int) rfl rfl rfl rfl ?_)
  refine .p (aW (((4*k):Nat):Int) rfl rfl rfl rfl ?_)
  refine dR ((((4*k)+4):Nat):Int) rfl .no (.u rfl) (.u rfl) rfl (by omega) (fun _=>cB (by omega) (by omega)) ?_
  refine kS ((4*k)) (((4*k)+4)) rfl .no aH hs (.u rfl) (.u rfl) (.u rfl) (by omega) (by omega) (by omega) (by omega) ?_
  intro h33 L33 eL33 lL33 hs33
  have lL33:=lL33 rfl
  refine lE rfl bK rfl (mV rfl rfl (.nc (.block ?_)))
  refine bE (α:=Nat×(Nat→W)) (fun gh=>[(35,true,.int .i64 (gh.1:Int))]) (fun gh=>[.blk b4 (cl (wa 64 gh.2) 192)])
   (fun gh Gl=>(gh.1≤4)∧(gh.2=bA y k (zS (fun i=>xs.getD i 0) k gh.1))) (fun gh=>4-gh.1) (0,y) [(0,true,_),(1,true,_),(4,true,_),(5,true,_),(24,true,_),(33,true,_),(34,true,_)] [_]
   (aO rfl (aA rfl (aA rfl (aA rfl (aA rfl (aA rfl (aA rfl (aA rfl eZ))))))))
   (mS .here rfl (mS .here rfl mN)) ?_ ?_
  ·refine ⟨?_,?_⟩
   ·(try dsimp only)<;>(first|omega|rfl|assumption|(simp; done))
   (try dsimp only)<;>(rw [ey]; exact (aR6 _ (Nat.le_refl k)).symm)
  intro gh N1 Gl1 hN1 hGl1 hF1
  obtain ⟨c,y2⟩:=gh; dsimp only at hF1 hN1 ⊢
  obtain ⟨hc,ey2⟩:=hF1
  have hK:=hK.mono hGl1
  have hs33:=hs33.mono hGl1
  refine .g (cP rfl rfl rfl rfl (.g (cD rfl (fun c2=>?_) (fun c2=>?_))))
  ·have c2k:=c2
   try simp only [aC,aD] at c2
   refine .skip (.code (.seq (.block (.seq (eH rfl rfl (ih rfl .no aH (.u rfl) (.u rfl) (by omega) (by omega) (fun _=>hs33.nn (k:=c) (by omega)) ?_))))))
   refine lN rfl cA rfl ((hs33.yat (c) (by omega) (by omega)).rd) ?_
   refine .g (iW rfl qR rfl rfl ?_)
   refine lO rfl bI rfl .here (by first|exact bF (k) (by omega) (by omega)|exact cM (k) (by omega) (by omega)|exact cV (k) (by omega) (by omega)|rfl) ?_
   refine lw (k:=.u32) rfl .no rfl (.u rfl) (.u rfl) (fun _=>by decide) ?_
   refine .p (cu (k:=.u8) rfl .no rfl pO (.u rfl) ?_)
   refine bw (k:=.u32) rfl .no rfl (.u rfl) (.u rfl) rfl (iW rfl qR rfl rfl ?_)
   refine s1 rfl (.u rfl) (.u rfl) rfl eC .here (by first|decide|(simp only [bO,aU,bJ]; omega)) (by first|exact cU (k) (by omega)|exact hH (k) (by omega)|exact mD (k) (by omega) (by omega)|rfl) ?_
   refine .g (aW (((c+1):Nat):Int) rfl rfl rfl rfl ?_)
   refine .g (aZ (c+1,bA y2 k (y2 k <<< Int.toNat 8 ||| BitVec.setWidth 32 (L33.getD c 0))) ?_ ?_ ?_ ?_ ?_)
   ·exact (aO rfl (aA rfl (aA rfl (aA rfl (aA rfl (aA rfl (aA rfl (aA rfl eZ))))))))
   ·exact (mS .here rfl (mS .here rfl mN))
   ·first|omega|(dsimp only; omega)
   ·exact hGl1
   refine ⟨?_,?_⟩
   ·(try dsimp only)<;>(first|omega|rfl|assumption|(simp; done))
   (try dsimp only)<;>(rw [ey2,uU,aEI,zS,eL33,aGl (by omega)]; rfl)
  have c2k:=c2
  try simp only [aC,aD] at c2
  refine .g (aW (((k+1):Nat):Int) rfl rfl rfl rfl ?_)
  refine .g (aZ (k+1,y2) ?_ ?_ ?_ ?_ ?_)
  ·exact (aO rfl (aA rfl (aA rfl (aA rfl eZ))))
  ·exact (mS .here rfl (mS .here rfl mN))
  ·first|omega|(dsimp only; omega)
  ·exact (hGl0).trans hGl1
  refine ⟨?_,?_⟩
  ·(try dsimp only)<;>(first|omega|rfl|assumption|(simp; done))
  (try dsimp only)<;>(obtain rfl:c=4:=(by omega); rw [ey2,ey,aQl]; rfl)
 have c1k:=c1
 try simp only [aC,aD] at c1
 refine .exit (.xcode (.xlp (.xblk (.code (.seq (.seq ?_))))))
 obtain rfl:k=16:=by omega
 refine aM rfl rfl (aS rfl rfl (.nc (.block ?_)))
 refine bE (α:=Nat×(Nat→W)) (fun gh=>[(8,true,.int .i64 ((16+gh.1:Nat):Int))]) (fun gh=>[.blk b4 (cl (wa 64 gh.2) 192)])
  (fun gh Gl=>(gh.1≤48)∧(gh.2=iO (fun i=>xs.getD i 0) gh.1)) (fun gh=>48-gh.1) (0,_) [(0,true,_),(4,true,_)] [_]
  (aO rfl (aA rfl (aA rfl eZ)))
  (mS .here rfl (mS .here rfl mN)) ?_ ?_
 ·refine ⟨?_,?_⟩
  ·(try dsimp only)<;>(first|omega|rfl|assumption|(simp; done))
  (try dsimp only)<;>(first|omega|rfl|assumption|(simp; done))
 intro gh N2 Gl2 hN2 hGl2 hF2
 obtain ⟨k1,y⟩:=gh; dsimp only at hF2 hN2 ⊢
 obtain ⟨hk1,ey⟩:=hF2
 have hK:=hK.mono hGl2
 refine .g (cP rfl rfl rfl rfl (.g (cD rfl (fun c3=>?_) (fun c3=>?_))))
 ·have c3k:=c3
  try simp only [aC,aD] at c3
  refine .g (bG (mc:=⟨false,false⟩) [0,1,2,3,4,5,6,7,8,9] aV (by kernel_rfl) ?_)
  refine .p (aW (((1+k1):Nat):Int) rfl rfl rfl rfl ?_)
  refine iW rfl qR rfl rfl ?_
  refine lO rfl bI rfl .here (by first|exact bF ((1+k1)) (by omega) (by omega)|exact cM ((1+k1)) (by omega) (by omega)|exact cV ((1+k1)) (by omega) (by omega)|rfl) ?_
  refine .p (aW (((14+k1):Nat):Int) rfl rfl rfl rfl ?_)
  refine iW rfl qR rfl rfl ?_
  refine lO rfl bI rfl .here (by first|exact bF ((14+k1)) (by omega) (by omega)|exact cM ((14+k1)) (by omega) (by omega)|exact cV ((14+k1)) (by omega) (by omega)|rfl) ?_
  refine .g (bG (mc:=⟨false,false⟩) [0,1,2,3,4,5,6,7,8,9,10,12,15,16,19,21,24,25,11,13,14,17,18,20,22,23,26,27,28,29] aV (by kernel_rfl) ?_)
  refine .p (aW ((k1:Nat):Int) rfl rfl rfl rfl ?_)
  refine iW rfl qR rfl rfl ?_
  refine lO rfl bI rfl .here (by first|exact bF (k1) (by omega) (by omega)|exact cM (k1) (by omega) (by omega)|exact cV (k1) (by omega) (by omega)|rfl) ?_
  refine .p (aW (((9+k1):Nat):Int) rfl rfl rfl rfl ?_)
  refine iW rfl qR rfl rfl ?_
  refine lO rfl bI rfl .here (by first|exact bF ((9+k1)) (by omega) (by omega)|exact cM ((9+k1)) (by omega) (by omega)|exact cV ((9+k1)) (by omega) (by omega)|rfl) ?_
  refine bw (k:=.u32) rfl .no rfl (.u rfl) (.u rfl) rfl (.p (iC (k:=.u32) rfl .no (.u rfl) (.u rfl) (fun _=>by decide) ?_))
  refine .p (iC (k:=.u32) rfl .no (.u rfl) (.u rfl) (fun _=>by decide) ?_)
  refine kV rfl qX (aB rfl (aB rfl aE)) (qH _ 7 _ (by decide)) ?_
  refine kV rfl qX (aB rfl (aB rfl aE)) (qH _ 18 _ (by decide)) ?_
  refine bw (k:=.u32) rfl .no rfl (.u rfl) (.u rfl) rfl (bw (k:=.u32) rfl .no rfl (.u rfl) (.u rfl) rfl (bw (k:=.u32) rfl .no rfl (.u rfl) (.u rfl) rfl (kV rfl qX (aB rfl (aB rfl aE)) (qH _ 17 _ (by decide)) ?_)))
  refine kV rfl qX (aB rfl (aB rfl aE)) (qH _ 19 _ (by decide)) ?_
  refine bw (k:=.u32) rfl .no rfl (.u rfl) (.u rfl) rfl (bw (k:=.u32) rfl .no rfl (.u rfl) (.u rfl) rfl (bw (k:=.u32) rfl .no rfl (.u rfl) (.u rfl) rfl (iW rfl qR rfl rfl ?_)))
  refine s1 rfl (.u rfl) (.u rfl) rfl eC .here (by first|decide|(simp only [bO,aU,bJ]; omega)) (by first|exact cU (((16+k1:Nat))) (by omega)|exact hH (((16+k1:Nat))) (by omega)|exact mD (((16+k1:Nat))) (by omega) (by omega)|rfl) ?_
  refine .g (dR (((((16+k1:Nat))+1):Nat):Int) rfl .no (.u rfl) (.u rfl) rfl (by omega) (fun _=>cB (by omega) (by omega)) ?_)
  refine .g (aZ (k1+1,_) (aO rfl (aA rfl (aA rfl eZ))) (mS .here rfl (mS .here rfl mN)) ?_ ?_ ?_)
  ·first|omega|(dsimp only; omega)
  ·exact hGl2
  refine ⟨?_,?_⟩
  ·(try dsimp only)<;>(first|omega|rfl|assumption|(simp; done))
  (try dsimp only)<;>(rw [ey]; rfl)
 have c3k:=c3
 try simp only [aC,aD] at c3
 refine .exit (.xcode (.xlp (.xblk (.code (.seq ?_)))))
 obtain rfl:k1=48:=by omega
 refine bG (mc:=⟨false,false⟩) [0,1,2,3,4,5,6,7,8,9,10,11,12,13,14,15,16,17,18,19,20,21,22,23,24,25,26,27,28,29,30,31,32,33,34,35,36,37,38,39,40,41,42,43,44,45,46,47] aV (by kernel_rfl) ?_
 refine .p (nC rfl rfl (fZ rfl oR rfl (iW rfl dI rfl rfl ?_)))
 refine lO rfl bI rfl aF (by first|exact bF (0) (by omega) (by omega)|exact cM (0) (by omega) (by omega)|exact cV (0) (by omega) (by omega)|rfl) ?_
 refine .p (nC rfl rfl (fZ rfl oR rfl (iW rfl dI rfl rfl ?_)))
 refine lO rfl bI rfl aF (by first|exact bF (1) (by omega) (by omega)|exact cM (1) (by omega) (by omega)|exact cV (1) (by omega) (by omega)|rfl) ?_
 refine .p (nC rfl rfl (fZ rfl oR rfl (iW rfl dI rfl rfl ?_)))
 refine lO rfl bI rfl aF (by first|exact bF (2) (by omega) (by omega)|exact cM (2) (by omega) (by omega)|exact cV (2) (by omega) (by omega)|rfl) ?_
 refine .p (nC rfl rfl (fZ rfl oR rfl (iW rfl dI rfl rfl ?_)))
 refine lO rfl bI rfl aF (by first|exact bF (3) (by omega) (by omega)|exact cM (3) (by omega) (by omega)|exact cV (3) (by omega) (by omega)|rfl) ?_
 refine .p (nC rfl rfl (fZ rfl oR rfl (iW rfl dI rfl rfl ?_)))
 refine lO rfl bI rfl aF (by first|exact bF (4) (by omega) (by omega)|exact cM (4) (by omega) (by omega)|exact cV (4) (by omega) (by omega)|rfl) ?_
 refine .p (nC rfl rfl (fZ rfl oR rfl (iW rfl dI rfl rfl ?_)))
 refine lO rfl bI rfl aF (by first|exact bF (5) (by omega) (by omega)|exact cM (5) (by omega) (by omega)|exact cV (5) (by omega) (by omega)|rfl) ?_
 refine .p (nC rfl rfl (fZ rfl oR rfl (iW rfl dI rfl rfl ?_)))
 refine lO rfl bI rfl aF (by first|exact bF (6) (by omega) (by omega)|exact cM (6) (by omega) (by omega)|exact cV (6) (by omega) (by omega)|rfl) ?_
 refine .p (nC rfl rfl (fZ rfl oR rfl (iW rfl dI rfl rfl ?_)))
 refine lO rfl bI rfl aF (by first|exact bF (7) (by omega) (by omega)|exact cM (7) (by omega) (by omega)|exact cV (7) (by omega) (by omega)|rfl) ?_
 refine aS rfl rfl (aS rfl rfl (aS rfl rfl (aS rfl rfl (aS rfl rfl (aS rfl rfl (aS rfl rfl (aS rfl rfl (.nc (.seq (.seq (aM rfl rfl (mV rfl rfl (.nc (.block ?_))))))))))))))
 refine bE (α:=Nat×(Nat→W)) (fun gh=>[(11,true,U (gh.2 0)),(12,true,U (gh.2 1)),(13,true,U (gh.2 2)),(14,true,U (gh.2 3)),(15,true,U (gh.2 4)),(16,true,U (gh.2 5)),(17,true,U (gh.2 6)),(18,true,U (gh.2 7)),(131,true,.int .i64 (gh.1:Int))]) (fun _=>[])
  (fun gh Gl=>(gh.1≤64)∧(gh.2=uO y s gh.1)) (fun gh=>64-gh.1) (0,s) [(0,true,_),(4,true,_)] [_,_]
  (aA rfl (aA rfl (aA rfl (aA rfl (aA rfl (aA rfl (aA rfl (aA rfl (aO rfl (aA rfl (aA rfl eZ)))))))))))
  (mS .here rfl (mS .here rfl mN)) ?_ ?_
 ·refine ⟨?_,?_⟩
  ·(try dsimp only)<;>(first|omega|rfl|assumption|(simp; done))
  (try dsimp only)<;>(first|omega|rfl|assumption|(simp; done))
 intro gh N3 Gl3 hN3 hGl3 hF3
 obtain ⟨k2,x⟩:=gh; dsimp only at hF3 hN3 ⊢
 obtain ⟨hk2,ex⟩:=hF3
 have hK:=hK.mono hGl3
 refine .g (cP rfl rfl rfl rfl (.g (cD rfl (fun c4=>?_) (fun c4=>?_))))
 ·have c4k:=c4
  try simp only [aC,aD] at c4
  refine .g (bG (mc:=⟨false,false⟩) [0,1,3,6,10,11,12,13,14,15,16,18,19,20,22,23,24,2,4,5,7,8,9,17,21,25,26] aV (by kernel_rfl) ?_)
  refine .p (bw (k:=.u32) rfl .no rfl (.u rfl) (.u rfl) rfl (bw (k:=.u32) rfl .no rfl (.u rfl) (.u rfl) rfl (bw (k:=.u32) rfl .no rfl (.u rfl) (.u rfl) rfl (.p (iW rfl qR rfl rfl ?_)))))
  refine lN rfl bI rfl ((hK.wat (k2) (by omega) (by omega)).rd) ?_
  refine .p (iW rfl qR rfl rfl ?_)
  refine lO rfl bI rfl .here (by first|exact bF (k2) (by omega) (by omega)|exact cM (k2) (by omega) (by omega)|exact cV (k2) (by omega) (by omega)|rfl) ?_
  refine kV rfl qX (aB rfl (aB rfl aE)) (qH _ 6 _ (by decide)) ?_
  refine kV rfl qX (aB rfl (aB rfl aE)) (qH _ 11 _ (by decide)) ?_
  refine bw (k:=.u32) rfl .no rfl (.u rfl) (.u rfl) rfl (kV rfl qX (aB rfl (aB rfl aE)) (qH _ 25 _ (by decide)) ?_)
  refine bw (k:=.u32) rfl .no rfl (.u rfl) (.u rfl) rfl (bw (k:=.u32) rfl .no rfl (.u rfl) (.u rfl) rfl (bw (k:=.u32) rfl .no rfl (.u rfl) (.u rfl) rfl (bw (k:=.u32) rfl .no rfl (.u rfl) (.u rfl) rfl (bw (k:=.u32) rfl .no rfl (.u rfl) (.u rfl) rfl (.g (kV rfl qX (aB rfl (aB rfl aE)) (qH _ 2 _ (by decide)) ?_))))))
  refine .p (kV rfl qX (aB rfl (aB rfl aE)) (qH _ 13 _ (by decide)) ?_)
  refine bw (k:=.u32) rfl .no rfl (.u rfl) (.u rfl) rfl (.p (kV rfl qX (aB rfl (aB rfl aE)) (qH _ 22 _ (by decide)) ?_))
  refine bw (k:=.u32) rfl .no rfl (.u rfl) (.u rfl) rfl (.p (bw (k:=.u32) rfl .no rfl (.u rfl) (.u rfl) rfl (.p (bw (k:=.u32) rfl .no rfl (.u rfl) (.u rfl) rfl (bw (k:=.u32) rfl .no rfl (.u rfl) (.u rfl) rfl (bw (k:=.u32) rfl .no rfl (.u rfl) (.u rfl) rfl (bw (k:=.u32) rfl .no rfl (.u rfl) (.u rfl) rfl (.g (bw (k:=.u32) rfl .no rfl (.u rfl) (.u rfl) rfl (.p (bw (k:=.u32) rfl .no rfl (.u rfl) (.u rfl) rfl (.g (aW (((k2+1):Nat):Int) rfl rfl rfl rfl ?_)))))))))))))
  refine .g (aZ (k2+1,rR x (kW k2) (y k2)) ?_ ?_ ?_ ?_ ?_)
  ·exact (aA rfl (aA rfl (aA rfl (aA rfl (aA rfl (aA rfl (aA rfl (aA rfl (aO rfl (aA rfl (aA rfl eZ)))))))))))
  ·exact (mS .here rfl (mS .here rfl mN))
  ·first|omega|(dsimp only; omega)
  ·exact hGl3
  refine ⟨?_,?_⟩
  ·(try dsimp only)<;>(first|omega|rfl|assumption|(simp; done))
  (try dsimp only)<;>(rw [ex]; rfl)
 have c4k:=c4
 try simp only [aC,aD] at c4
 refine .exit (.xcode (.xlp (.xblk (.code (.seq ?_)))))
 obtain rfl:k2=64:=by omega
 refine .g (dU (wa 8 x) rfl .no aBz (.cons (.u rfl) rfl (.cons (.u rfl) rfl (.cons (.u rfl) rfl (.cons (.u rfl) rfl (.cons (.u rfl) rfl (.cons (.u rfl) rfl (.cons (.u rfl) rfl (.cons (.u rfl) rfl .nil)))))))) rfl (by simp [pW,put,wa,List.range_succ]) ?_)
 refine mV rfl rfl (.nc (.block ?_))
 refine bE (α:=Nat×(Nat→W)) (fun gh=>[(200,true,.int .i64 (gh.1:Int))]) (fun gh=>[.blk bs (cl (wa 8 gh.2++[vp,nn]) 168)])
  (fun gh Gl=>(gh.1≤8)∧(gh.2=fun i=>if i<gh.1 then s i+x i else s i)) (fun gh=>8-gh.1) (0,s) [(0,true,_),(199,true,_)] [_]
  (aO rfl (aA rfl (aA rfl eZ)))
  (mS aF rfl (mS .here rfl mN)) ?_ ?_
 ·refine ⟨?_,?_⟩
  ·(try dsimp only)<;>(first|omega|rfl|assumption|(simp; done))
  (try dsimp only)<;>(funext i; simp)
 intro gh N4 Gl4 hN4 hGl4 hF4
 obtain ⟨k3,z⟩:=gh; dsimp only at hF4 hN4 ⊢
 obtain ⟨hk3,ez⟩:=hF4
 refine .g (cP rfl rfl rfl rfl (.g (cD rfl (fun c5=>?_) (fun c5=>?_))))
 ·have c5k:=c5
  try simp only [aC,aD] at c5
  refine .g (ix rfl .no dI bI (.u rfl) (.u rfl) (by omega) (by omega) (fun _=>tC (n:=8) (y:=x) (j:=k3) (by omega)) ?_)
  refine .g (bG (mc:=⟨false,false⟩) [0,1,2,3,4,5,6,7,8,9,10,11] aV (by kernel_rfl) ?_)
  refine .p (nC rfl rfl (fZ rfl oR rfl (iW rfl dI rfl rfl ?_)))
  refine lO rfl bI rfl .here (by first|exact bF (k3) (by omega) (by omega)|exact cM (k3) (by omega) (by omega)|exact cV (k3) (by omega) (by omega)|rfl) ?_
  refine .p (bw (k:=.u32) rfl .no rfl (.u rfl) (.u rfl) rfl (nC rfl rfl (fZ rfl oR rfl (iW rfl dI rfl rfl ?_))))
  refine s1 rfl (.u rfl) (.u rfl) rfl eC .here (by first|decide|(simp only [bO,aU,bJ]; omega)) (by first|exact cU (k3) (by omega)|exact hH (k3) (by omega)|exact mD (k3) (by omega) (by omega)|rfl) ?_
  refine .g (aW (((k3+1):Nat):Int) rfl rfl rfl rfl ?_)
  refine .g (aZ (k3+1,_) (aO rfl (aA rfl (aA rfl eZ))) (mS .here rfl (mS .here rfl mN)) ?_ ?_ ?_)
  ·first|omega|(dsimp only; omega)
  ·exact hGl4
  refine ⟨?_,?_⟩
  ·(try dsimp only)<;>(first|omega|rfl|assumption|(simp; done))
  (try dsimp only)<;>(rw [ez]; exact aR4)
 have c5k:=c5
 try simp only [aC,aD] at c5
 refine .g (We.fin Tryz.results137 .nil (mS .here rfl mN) ?_)
 obtain rfl:k3=8:=by omega
 refine ⟨?_,rfl⟩
 rw [ez,ex,ey,aJZ (f:=fun i=>if i<8 then s i+uO (iO (fun i=>xs.getD i 0) 48) s 64 i else s i) (f':=oM s (fun i=>xs.getD i 0)) (fun i hi=>by rw [if_pos hi]; rfl)]
theorem aAM:cK Tryz.prog 168 2=some 9:=by kernel_rfl
theorem dA:dT Tryz.prog 3=some none:=by kernel_rfl
theorem qZ:dG Tryz.prog 3=some 1:=by kernel_rfl
theorem qU:cK Tryz.prog 168 1=some 8:=by kernel_rfl
theorem bV:dT Tryz.prog 34=some none:=by kernel_rfl
theorem iE:dG Tryz.prog 34=some 1:=by kernel_rfl
theorem aEs:aQ Tryz.prog 137=true:=by kernel_rfl
theorem aMF (s:Nat→W) (xs:List Y) (v vp nn:Value) (bs:Nat) (G:PM) (hK:RdNP G 1 0 (wa 64 kW)) (hl:64≤xs.length):Ct Tryz.prog 137 ([.pointer (some ⟨bs,0,none⟩),v]:List Value).toArray G [rB v 5 xs,.blk bs (cl (wa 8 s++[vp,nn]) 168)] (fun _ μ' u=>∃ ν,μ'=rB v 5 xs :: ν∧ν=[.blk bs (cl (wa 8 (oM s (fun i=>xs.getD i 0))++[vp,nn]) 168)]∧u=.tuple #[]) :=
 xG (fun h G2 hle hv hs=>by subst hv; exact aCY s xs h vp nn bs G2 hs (hK.mono hle) hl)
theorem zU {y:Nat→W} {a b v:Value}:(wa 8 y++[a,b]).set 8 v=wa 8 y++[v,b]:=aJb rfl
theorem zV {y:Nat→W} {a b v:Value}:(wa 8 y++[a,b]).set 9 v=wa 8 y++[a,v]:=aJb rfl
theorem aD8 {zs:List Y} {j m b T:Nat} {vp:Value} (hj:zs.length / 64=j) (hm:m=zs.length):Res.blk b (cl (wa 8 (fE zs j)++[vp,.int .i64 (m:Int)]) T)=.blk b (cl (iP zs vp) T):=by
 subst hj; subst hm; rfl
theorem aHn {zs L:List Y} {j b T:Nat} {vq nn:Value} (eL:L=zs.drop (64*j)) (h:64≤L.length):Res.blk b (cl (wa 8 (oM (fE zs j) (fun i=>L.getD i 0))++[vq,nn]) T)=.blk b (cl (wa 8 (fE zs (j+1))++[vq,nn]) T):=by
 rw [fE,aBe (b':=tX zs j)]
 intro i hi
 rw [eL,tX]; simp [List.getD_eq_getElem?_getD,List.getElem?_drop]
theorem aO8 {xs ys L:List Y} {b T k:Nat} {vq nn:Value} (eL:L=eT xs++ys.take k) (hk:k=min (64-(eT xs).length) ys.length) (h:64≤L.length):Res.blk b (cl (wa 8 (oM (fE xs (xs.length / 64)) (fun i=>L.getD i 0))++[vq,nn]) T)=.blk b (cl (wa 8 (fE (xs++ys) (xs.length / 64+1))++[vq,nn]) T):=by
 have hr:=wS xs
 rw [eL,List.length_append,List.length_take] at h
 rw [fE,aD4 (by omega),aBe (b':=tX (xs++ys) (xs.length / 64))]
 intro i hi
 rw [eL,tX]
 simp only [List.getD_eq_getElem?_getD,List.getElem?_append,List.getElem?_take,hr]
 by_cases h1:i<xs.length%64
 ·simp [h1,eT,show 64*(xs.length / 64)+i<xs.length by omega]
 ·rw [if_neg h1,if_pos (by omega),if_neg (by omega)]
  congr 2; omega
theorem aPA {xs ys L:List Y} (eL:L=eT xs++ys.take (min (64-(eT xs).length) ys.length)) (h:L.length<64):L=eT (xs++ys)∧(xs++ys).length / 64=xs.length / 64∧fE (xs++ys) (xs.length / 64)=fE xs (xs.length / 64):=by
 have hr:=wS xs
 rw [eL,List.length_append,List.length_take] at h
 have e:(xs++ys).length / 64=xs.length / 64:=by rw [List.length_append]; omega
 refine ⟨?_,e,aD4 (by omega)⟩
 have h5:min (64-(eT xs).length) ys.length=ys.length:=by omega
 rw [eL,h5,List.take_length,eT,eT,e,List.drop_append_of_le_length (by omega)]
theorem aO6 {xs ys:List Y} (h:64≤(eT xs).length+ys.length):ys.drop (min (64-(eT xs).length) ys.length)=(xs++ys).drop (64*(xs.length / 64+1)):=by
 have hr:=wS xs
 rw [List.drop_append,List.drop_of_length_le (show xs.length≤64*(xs.length / 64+1) by omega),List.nil_append]
 congr 1; omega
theorem aO7 {xs ys:List Y} (h:(eT xs).length=0):ys=(xs++ys).drop (64*(xs.length / 64)):=by
 have hr:=wS xs
 rw [show 64*(xs.length / 64)=xs.length by omega,List.drop_left]
theorem aPB {xs ys:List Y} {b T:Nat} {vq nn:Value} (h:(eT xs).length=0):Res.blk b (cl (wa 8 (fE xs (xs.length / 64))++[vq,nn]) T)=.blk b (cl (wa 8 (fE (xs++ys) (xs.length / 64))++[vq,nn]) T):=by
 rw [aD4 (by omega)]
theorem aDe (xs ys:List Y) (h:Sh) (vp:Value) (bs:Nat) (G:PM) (hs:SlR G 1 aL h ys) (hK:RdNP G 1 0 (wa 64 kW)) (hl:xs.length+ys.length≤4611686018427387904):Ct Tryz.prog 115 ([.pointer (some ⟨bs,0,none⟩),h.val ys.length]:List Value).toArray G [.blk bs (cl (iP xs vp) 168),rB vp 5 (eT xs)] (fun _ μ' u=>∃ vp',μ'=[.blk bs (cl (iP (xs++ys) vp') 168),rB vp' 5 (eT (xs++ys))]∧u=.tuple #[]):=by
 refine Ct.of Tryz.func115 rfl Tryz.ntmps115 rfl fun w0 hs0=>?_
 have hr:=wS xs
 refine .g (nC rfl rfl (fZ rfl aAM rfl (lO rfl dA rfl .here (by first|exact aJ rfl|rfl) ?_)))
 refine .p (lE rfl bK rfl (aW (((xs.length+ys.length):Nat):Int) rfl rfl rfl rfl ?_))
 refine nC rfl rfl (fZ rfl aAM rfl (s1 rfl (.u rfl) (.u rfl) rfl qZ .here (by first|decide|(simp only [iP,bO,aU,bJ]; omega)) (by first|exact zU|exact zV) ?_))
 refine .g (nC rfl rfl (fZ rfl qU rfl (lO rfl bV rfl .here (by first|exact aJ rfl|rfl) ?_)))
 refine lr rfl .no bK (.u rfl) aF ?_
 refine cP rfl rfl rfl rfl (.g (cD rfl (fun c1=>?_) (fun c1=>?_)))
 ·have c1k:=c1
  try simp only [aC,aD] at c1
  refine .g (nC rfl rfl (fZ rfl qU rfl (lO rfl bV rfl .here (by first|exact aJ rfl|rfl) ?_)))
  refine lr rfl .no bK (.u rfl) aF ?_
  refine dR (((64-(eT xs).length):Nat):Int) rfl .no (.u rfl) (.u rfl) rfl (by omega) (fun _=>cB (by omega) (by omega)) ?_
  refine .p (lE rfl bK rfl (wK ((64-(eT xs).length)) (ys.length) rfl .no (.u rfl) (.u rfl) (by omega) (by omega) ?_))
  refine .g (bG (mc:=⟨false,false⟩) [0,1,2,3,4,5,6,7,8,9,10,11] aV (by kernel_rfl) ?_)
  refine .p (nC rfl rfl (fZ rfl qU rfl (lO rfl bV rfl .here (by first|exact aJ rfl|rfl) ?_)))
  refine .p (kE ((min (64-(eT xs).length) ys.length)) rfl .no aH hs (.u rfl) (.u rfl) (by omega) (by omega) ?_)
  intro h36 L36 eL36 lL36 hs36
  have lL36:=lL36 rfl
  refine cF rfl aH aY (.u rfl) (.u rfl) aF hs36.sc (by (try simp only [bJ,bB]); omega) ?_
  intro v37 L37 ov37 eL37
  have lL37:L37.length=(eT xs).length+L36.length:=by rw [eL37,List.length_append]
  refine nC rfl rfl (fZ rfl qU rfl (fR rfl (.u rfl) (.u rfl) .here iE aF (by first|decide|(simp only [iP,bO,aU,bJ]; omega)) (by first|exact zU|exact zV) ?_))
  refine .g (kD ((min (64-(eT xs).length) ys.length)) rfl .no aH hs (.u rfl) (.u rfl) (by omega) (by omega) ?_)
  intro h42 L42 eL42 lL42 hs42
  have lL42:=lL42 rfl
  refine .g (nC rfl rfl (fZ rfl qU rfl (lO rfl bV rfl .here (by first|exact aJ rfl|rfl) ?_)))
  refine lr rfl .no bK (.u rfl) aF ?_
  refine cP rfl rfl rfl rfl (.g (cD rfl (fun c2=>?_) (fun c2=>?_)))
  ·have c2k:=c2
   try simp only [aC,aD] at c2
   refine .ret (We.fin Tryz.results115 .nil (mS .here rfl (mS .here rfl mN)) ?_)
   obtain ⟨e1,e2,e3⟩:=aPA (eL37.trans (by rw [eL36])) (by omega)
   exact ⟨v37,by rw [← e1,←e3,aD8 e2 (by simp)],rfl⟩
  have c2k:=c2
  try simp only [aC,aD] at c2
  refine .g (nC rfl rfl (fZ rfl qU rfl (lO rfl bV rfl .here (by first|exact aJ rfl|rfl) ?_)))
  refine ka rfl (.inr rfl) aEs (aB rfl (aB rfl aE)) (rM aF .here) (aMF _ L37 _ _ _ _ _ hK (by omega)) ?_
  rintro _ G54 μ54 hG54 ⟨_,rfl,rfl,rfl⟩
  have hs:=hs.mono hG54
  have hK:=hK.mono hG54
  have hs42:=hs42.mono hG54
  refine .g (nC rfl rfl (fZ rfl qU rfl (s1 rfl (.u rfl) (.u rfl) rfl iE aF (by first|decide|(simp only [iP,bO,aU,bJ]; omega)) (by first|exact zU|exact zV) ?_)))
  refine .nil (jW 5 ?_)
  refine .code (.seq (.block ?_))
  refine bE (α:=Nat×Sh×List Y×Value) (fun gh=>[(1,true,gh.2.1.val gh.2.2.1.length)]) (fun gh=>[.blk bs (cl (wa 8 (fE (xs++ys) gh.1)++[gh.2.2.2,.int .i64 ((xs.length+ys.length:Nat):Int)]) 168)])
   (fun gh Gl=>(64*gh.1≤xs.length+ys.length)∧(gh.2.2.1=(xs++ys).drop (64*gh.1))∧(SlR Gl 1 aL gh.2.1 gh.2.2.1)) (fun gh=>gh.2.2.1.length) (xs.length / 64+1,_,_,_) [(0,true,_)] [_]
   (aA rfl (aA rfl eZ))
   (mS aF (aO8 (eL37.trans (by rw [eL36])) rfl (by omega)) (mS .here rfl mN)) ?_ ?_
  ·refine ⟨?_,?_,?_⟩
   ·(try dsimp only)<;>(omega)
   ·(try dsimp only)<;>(rw [eL42]; exact aO6 (by omega))
   (try dsimp only)<;>(exact hs42)
  intro gh N0 Gl0 hN0 hGl0 hF0
  obtain ⟨j,h',L,vq⟩:=gh; dsimp only at hF0 hN0 ⊢
  obtain ⟨hj,eL,hL⟩:=hF0
  have hs:=hs.mono hGl0
  have hK:=hK.mono hGl0
  have lL:L.length=xs.length+ys.length-64*j:=by rw [eL]; simp
  refine .g (lE rfl bK rfl (cP rfl rfl rfl rfl (.g (cD rfl (fun c3=>?_) (fun c3=>?_)))))
  ·have c3k:=c3
   try simp only [aC,aD] at c3
   refine .g (ka rfl (.inr rfl) aEs (aB rfl (aB rfl aE)) (bQ .here) (aCY _ L h' _ _ _ _ hL hK (by omega)) ?_)
   rintro _ G65 μ65 hG65 ⟨rfl,rfl⟩
   have hs:=hs.mono hG65
   have hK:=hK.mono hG65
   have hL:=hL.mono hG65
   refine .g (kD (64) rfl .no aH hL (.u rfl) (.u rfl) (by omega) (by omega) ?_)
   intro h62 L62 eL62 lL62 hs62
   have lL62:=lL62 rfl
   refine .g (aZ (j+1,h62,L62,vq) ?_ ?_ ?_ ?_ ?_)
   ·exact (aA rfl (aA rfl eZ))
   ·exact (mS .here (aHn eL (by omega)) (mS .here rfl mN))
   ·first|omega|(dsimp only; omega)
   ·exact (hGl0).trans hG65
   refine ⟨?_,?_,?_⟩
   ·(try dsimp only)<;>(omega)
   ·(try dsimp only)<;>(rw [eL62,eL,List.drop_drop]; congr 1)
   (try dsimp only)<;>(exact hs62)
  have c3k:=c3
  try simp only [aC,aD] at c3
  refine .exit (.xcode (.xlp (.xblk (.code (uQ rfl rfl (mV rfl rfl ?_))))))
  refine mM rfl aH ?_; intro b67
  refine .p (nW rfl aH aY (.u rfl) (.u rfl) .here hL.sc (by (try simp only [bJ,bB]); omega) ?_)
  intro v69 L69 _ ov69 eL69
  have lL69:L69.length=L.length:=by rw [eL69]
  refine nC rfl rfl (fZ rfl qU rfl (fR rfl (.u rfl) (.u rfl) .here iE aF (by first|decide|(simp only [iP,bO,aU,bJ]; omega)) (by first|exact zU|exact zV) ?_))
  refine .g (We.fin Tryz.results115 .nil (mS .here rfl (mS .here rfl mN)) ?_)
  have ej:(xs++ys).length / 64=j:=by rw [List.length_append]; omega
  exact ⟨v69,by rw [aD8 ej (by simp),eL69,eL,eT,ej],rfl⟩
 have c1k:=c1
 try simp only [aC,aD] at c1
 refine .skip (.code (.seq (.block ?_)))
 refine bE (α:=Nat×Sh×List Y×Value) (fun gh=>[(1,true,gh.2.1.val gh.2.2.1.length)]) (fun gh=>[.blk bs (cl (wa 8 (fE (xs++ys) gh.1)++[gh.2.2.2,.int .i64 ((xs.length+ys.length:Nat):Int)]) 168)])
  (fun gh Gl=>(64*gh.1≤xs.length+ys.length)∧(gh.2.2.1=(xs++ys).drop (64*gh.1))∧(SlR Gl 1 aL gh.2.1 gh.2.2.1)) (fun gh=>gh.2.2.1.length) (xs.length / 64,_,_,_) [(0,true,_)] [_]
  (aA rfl (aA rfl eZ))
  (mS .here (aPB (by omega)) (mS .here rfl mN)) ?_ ?_
 ·refine ⟨?_,?_,?_⟩
  ·(try dsimp only)<;>(omega)
  ·(try dsimp only)<;>(exact aO7 (by omega))
  (try dsimp only)<;>(exact hs)
 intro gh N1 Gl1 hN1 hGl1 hF1
 obtain ⟨j,h',L,vq⟩:=gh; dsimp only at hF1 hN1 ⊢
 obtain ⟨hj,eL,hL⟩:=hF1
 have hK:=hK.mono hGl1
 have lL:L.length=xs.length+ys.length-64*j:=by rw [eL]; simp
 refine .g (lE rfl bK rfl (cP rfl rfl rfl rfl (.g (cD rfl (fun c4=>?_) (fun c4=>?_)))))
 ·have c4k:=c4
  try simp only [aC,aD] at c4
  refine .g (ka rfl (.inr rfl) aEs (aB rfl (aB rfl aE)) (bQ .here) (aCY _ L h' _ _ _ _ hL hK (by omega)) ?_)
  rintro _ G65 μ65 hG65 ⟨rfl,rfl⟩
  have hL:=hL.mono hG65
  refine .g (kD (64) rfl .no aH hL (.u rfl) (.u rfl) (by omega) (by omega) ?_)
  intro h62 L62 eL62 lL62 hs62
  have lL62:=lL62 rfl
  refine .g (aZ (j+1,h62,L62,vq) ?_ ?_ ?_ ?_ ?_)
  ·exact (aA rfl (aA rfl eZ))
  ·exact (mS .here (aHn eL (by omega)) (mS .here rfl mN))
  ·first|omega|(dsimp only; omega)
  ·exact (hGl1).trans hG65
  refine ⟨?_,?_,?_⟩
  ·(try dsimp only)<;>(omega)
  ·(try dsimp only)<;>(rw [eL62,eL,List.drop_drop]; congr 1)
  (try dsimp only)<;>(exact hs62)
 have c4k:=c4
 try simp only [aC,aD] at c4
 refine .exit (.xcode (.xlp (.xblk (.code (uQ rfl rfl (mV rfl rfl ?_))))))
 refine mM rfl aH ?_; intro b67
 refine .p (nW rfl aH aY (.u rfl) (.u rfl) .here hL.sc (by (try simp only [bJ,bB]); omega) ?_)
 intro v69 L69 _ ov69 eL69
 have lL69:L69.length=L.length:=by rw [eL69]
 refine nC rfl rfl (fZ rfl qU rfl (fR rfl (.u rfl) (.u rfl) .here iE aF (by first|decide|(simp only [iP,bO,aU,bJ]; omega)) (by first|exact zU|exact zV) ?_))
 refine .g (We.fin Tryz.results115 .nil (mS .here rfl (mS .here rfl mN)) ?_)
 have ej:(xs++ys).length / 64=j:=by rw [List.length_append]; omega
 exact ⟨v69,by rw [aD8 ej (by simp),eL69,eL,eT,ej],rfl⟩
theorem aCC:iS Tryz.prog 168=some ([.int .u32 0,.int .u32 0,.int .u32 0,.int .u32 0,.int .u32 0,.int .u32 0,.int .u32 0,.int .u32 0,.slice none 0 0,.int .i64 0]):=by kernel_rfl
theorem aSa:fX Tryz.prog 168 [0]=some ([.int .u32 0,.int .u32 0,.int .u32 0,.int .u32 0,.int .u32 0,.int .u32 0,.int .u32 0,.int .u32 0,.slice none 0 0,.int .i64 0],[(0,8)]):=by kernel_rfl
theorem aAV:dG Tryz.prog 168=some 10:=by kernel_rfl
theorem aSU:dT Tryz.prog 168=some (some 10):=by kernel_rfl
theorem aEo:aQ Tryz.prog 114=true:=by kernel_rfl
theorem aKx:wN Tryz.prog 190=true:=by kernel_rfl
theorem aEp:aQ Tryz.prog 115=true:=by kernel_rfl
theorem fT:iS Tryz.prog 23=some (ba 32 (fun _=>0#8)):=by kernel_rfl
theorem aAI:dT Tryz.prog 166=some (some 8):=by kernel_rfl
theorem aSb:fX Tryz.prog 168 [0,1,2]=some ([.int .u32 0,.int .u32 0,.int .u32 0,.int .u32 0,.int .u32 0,.int .u32 0,.int .u32 0,.int .u32 0,.slice none 0 0,.int .i64 0],[(0,8),(8,1),(9,1)]):=by kernel_rfl
theorem cW:lC Tryz.prog 3 24=some .u64:=by kernel_rfl
theorem kU:lC Tryz.prog 24 5=some .u8:=by kernel_rfl
theorem gB:iG Tryz.prog 23=some (32,5,1):=by kernel_rfl
theorem cH:dT Tryz.prog 23=some (some 32):=by kernel_rfl
theorem fH:dG Tryz.prog 23=some 32:=by kernel_rfl
theorem aCU (G:PM):Ct Tryz.prog 114 ([]:List Value).toArray G [] (fun _ μ' u=>μ'=[]∧u=.agg (iP [] (.slice none 0 0)).toArray):=by
 refine Ct.of Tryz.func114 rfl Tryz.ntmps114 rfl fun w0 hs0=>?_
 refine .seq (aM rfl rfl ?_)
 refine al rfl aCC ?_; intro b0
 refine .g (dU (wa 8 ivW) rfl .no aBz (.cons (.u rfl) rfl (.cons (.u rfl) rfl (.cons (.u rfl) rfl (.cons (.u rfl) rfl (.cons (.u rfl) rfl (.cons (.u rfl) rfl (.cons (.u rfl) rfl (.cons (.u rfl) rfl .nil)))))))) rfl (by rfl) ?_)
 refine dU (iP [] (.slice none 0 0)) rfl .no aSa (.cons (.u rfl) rfl .nil) rfl (by rfl) ?_
 refine sw rfl (.u rfl) (.u rfl) rfl aAV .here (by rfl) (nK (nA _ _) (pG rfl rfl)) ?_
 refine .nil (.code (.ret (aP Tryz.results114 (.cell rfl (fun w hw=>bW aSU (RdN.own .here) ((by rfl)) hw) .nil) ?_)))
 exact ⟨rfl,rfl⟩
theorem aLB (G:PM):Ct Tryz.prog 148 ([]:List Value).toArray G [] (fun _ μ' u=>∃ b,μ'=[.blk b (cl (iP [] (.slice none 0 0)) 168),rB (.slice none 0 0) 5 (eT [])]∧u=.pointer (some ⟨b,0,none⟩)):=by
 refine Ct.of Tryz.func148 rfl Tryz.ntmps148 rfl fun w0 hs0=>?_
 refine .g (kv rfl .no aEo aE (fun _=>aCU _) ?_)
 refine al rfl aCC ?_; intro b1
 refine sw rfl (.u rfl) (.u rfl) rfl aAV .here (by rfl) (nK (nA _ _) (pG rfl rfl)) ?_
 refine .nil (.code (.seq (aM rfl rfl (aS rfl rfl (.nil (jW 5 ?_))))))
 refine .code (.ret (We.fin Tryz.results148 (.tmp rfl .nil) (mS aF rfl (mS .here rfl mN)) ?_))
 exact ⟨_,rfl,rfl⟩
theorem aFI (xs ys:List Y) (h:Sh) (vp:Value) (bs:Nat) (G:PM) (hs:SlR G 1 aL h ys) (hK:RdNP G 1 0 (wa 64 kW)) (hl:xs.length+ys.length≤4611686018427387904):Ct Tryz.prog 149 ([.pointer (some ⟨bs,0,none⟩),h.val ys.length]:List Value).toArray G [.blk bs (cl (iP xs vp) 168),rB vp 5 (eT xs)] (fun _ μ' u=>∃ vp',μ'=[.blk bs (cl (iP (xs++ys) vp') 168),rB vp' 5 (eT (xs++ys))]∧u=.tuple #[]):=by
 refine Ct.of Tryz.func149 rfl Tryz.ntmps149 rfl fun w0 hs0=>?_
 refine .g (pn rfl .no aKx (.u rfl) (.u rfl) ?_)
 refine .g (tR rfl rfl ?_)
 refine .g (ka rfl (.inr rfl) aEp (aB rfl (aB rfl aE)) (rM .here .here) (aDe _ _ _ _ _ _ hs hK hl) ?_)
 rintro _ G8 μ8 hG8 ⟨vq,rfl,rfl⟩
 refine .g (We.fin Tryz.results149 .nil (mS .here rfl (mS .here rfl mN)) ?_)
 exact ⟨vq,rfl,rfl⟩
theorem aRD {xs:List Y} {vp:Value}:((iP xs vp).drop 0).take 8=wa 8 (fE xs (xs.length / 64)):=by
 rw [List.drop_zero,iP,List.take_append_of_le_length (by rw [bO]; exact Nat.le_refl _),List.take_of_length_le (by rw [bO]; exact Nat.le_refl _)]
theorem aRB {zs:List Value} {xs:List Y} {v:Value} (h:zs.length=10):pW zs [(0,8),(8,1),(9,1)] [wa 8 (fE xs (xs.length / 64)),[v],[.int .i64 (xs.length:Int)]]=iP xs v:=by
 match zs,h with
 | [a,b,c,d,e,f,g,h,i,j],_=>rfl
theorem aNy {n q:Nat} (h:q<8):aA5 n q=((BitVec.ofInt 64 (n:Int)*8#64) >>> (56-8*(q:Int)).toNat).setWidth 8:=by
 rw [show (56-8*(q:Int)).toNat=56-8*q by omega]; rfl
theorem aFC (xs:List Y) (vp:Value) (bs:Nat) (G:PM) (hK:RdNP G 1 0 (wa 64 kW)) (hl:xs.length≤1152921504606846976):Ct Tryz.prog 116 ([.pointer (some ⟨bs,0,none⟩)]:List Value).toArray G [.blk bs (cl (iP xs vp) 168),rB vp 5 (eT xs)] (fun _ μ' u=>μ'=[.blk bs (cl (iP xs vp) 168),rB vp 5 (eT xs)]∧u=.agg (ba 32 (gN xs)).toArray):=by
 refine Ct.of Tryz.func116 rfl Tryz.ntmps116 rfl fun w0 hs0=>?_
 have hr:=wS xs
 have hz:jD xs.length=(119-xs.length%64)%64:=rfl
 refine .seq (aM rfl rfl ?_)
 refine al rfl fT ?_; intro b2
 refine .g (kv rfl .no aEo aE (fun _=>aCU _) ?_)
 refine al rfl aCC ?_; intro b3
 refine sw rfl (.u rfl) (.u rfl) rfl aAV .here (by rfl) (nK (nA _ _) (pG rfl rfl)) ?_
 refine .g (pn rfl .no aKx (.u rfl) (.u rfl) ?_)
 refine .g (tR rfl rfl ?_)
 refine aAB bM ?_; intro sRP bbRP evRP lcRP oaRP; subst evRP
 refine bG (mc:=⟨false,true⟩) [0,1,2,3,5,6,7,8,10,11,12,13,4,9,14,15] aV (by kernel_rfl) ?_
 refine .p (nC rfl rfl (fZ rfl oR rfl (lA rfl .no aAI (.u rfl) (fun _=>RdN.part (n:=8) (cs':=wa 8 (fE xs (xs.length / 64))) aT (aRD)) (fun _=>(by first|exact qE|exact qL|rfl)) ?_)))
 refine .p (nC rfl rfl (fZ rfl qU rfl (lO rfl bV rfl aT (by first|exact aJ rfl|rfl) ?_)))
 refine .p (nC rfl rfl (fZ rfl aAM rfl (lO rfl dA rfl aT (by first|exact aJ rfl|rfl) ?_)))
 refine mM rfl aH ?_; intro b16
 refine nW rfl aH aY (.u rfl) (.u rfl) .here (aCJ fG oaRP) (by (try simp only [bJ,bB]); omega) ?_
 intro v21 L21 _ ov21 eL21
 have lL21:L21.length=(eT xs).length:=by rw [eL21]
 refine dU (iP xs v21) rfl .no aSb (.cons (.u rfl) rfl (.cons (.u rfl) (yH ov21) (.cons (.u rfl) rfl .nil))) rfl (aRB rfl) ?_
 refine sw rfl (.u rfl) (.u rfl) rfl aAV aF (by rfl) (nK (nA _ _) (pG ov21 rfl)) ?_
 refine .nil (.code (.seq ?_))
 subst eL21
 refine .g (fZ rfl aAM rfl (lO rfl dA rfl .here (by first|exact aJ rfl|rfl) ?_))
 refine ci rfl .no rfl cW (.u rfl) ?_
 refine bw (k:=.u64) (b:=8#64) rfl .no rfl (.u rfl) (.u rfl) rfl (aS rfl rfl (.nc (.seq (bD rfl rfl ?_))))
 refine mkY (1) (72) rfl aH aY (.u rfl) (.u rfl) (by first|rfl|omega) (by first|rfl|omega) (by omega) (by omega) ?_; intro b31
 have lR31:(List.replicate (1) (0#8:Y)).length=1:=List.length_replicate
 refine .g (ia rfl .no aH (.u rfl) (.u rfl) (by omega) (by omega) ?_)
 refine s1r (z:=128#8) rfl (.u rfl) (.u rfl) fW .here (by omega) ?_; intro Ls6_2 eLs6_2 lLs6_2
 refine .nil (.code (.seq (.block ?_)))
 refine bE (α:=Nat×Value×List Y) (fun gh=>[(5,true,gh.2.1)]) (fun gh=>[rB gh.2.1 5 gh.2.2])
  (fun gh Gl=>(gh.1≤jD xs.length)∧(gh.2.2=128#8 :: List.replicate gh.1 0#8)) (fun gh=>jD xs.length-gh.1) (0,_,_) [(2,true,_),(3,true,_),(4,true,_)] [_,_,_,_,_]
  (aA rfl (aA rfl (aA rfl (aA rfl eZ))))
  (mS .here rfl (mS .here rfl (mS .here rfl (mS .here rfl (mS .here rfl (mS .here rfl mN)))))) ?_ ?_
 ·refine ⟨?_,?_⟩
  ·(try dsimp only)<;>(exact Nat.zero_le _)
  (try dsimp only)<;>(rw [eLs6_2]; rfl)
 intro gh N0 Gl0 hN0 hGl0 hF0
 obtain ⟨j,v,L⟩:=gh; dsimp only at hF0 hN0 ⊢
 obtain ⟨hj,eL⟩:=hF0
 have hK:=hK.mono hGl0
 have lL:L.length=j+1:=by rw [eL]; simp
 have hz:jD xs.length=(119-xs.length%64)%64:=rfl
 refine .g (fZ rfl aAM rfl (lO rfl dA rfl aF (by first|exact aJ rfl|rfl) ?_))
 refine .p (lr rfl .no bK (.u rfl) .here ?_)
 refine aW (((xs.length+L.length):Nat):Int) rfl rfl rfl rfl ?_
 refine zM ((xs.length+L.length)) (64) rfl .no (.u rfl) (.u rfl) (by omega) (by omega) (fun _=>by first|decide|omega) ?_
 refine cP rfl rfl rfl rfl (.g (cD rfl (fun c1=>?_) (fun c1=>?_)))
 ·have c1k:=c1
  try simp only [aC,aD] at c1
  refine .skip (.code (.block (gH rfl rfl (mV rfl rfl ?_))))
  refine Go.Tan.b1 rfl aH aY (.u rfl) rfl rfl (by decide) ?_; intro b42
  refine cF rfl aH aY (.u rfl) (.u rfl) aF (Sc.one (y:=0#8) .here) (by show _+1≤_; omega) ?_
  intro v43 L43 ov43 eL43
  have lL43:L43.length=L.length+1:=by rw [eL43,List.length_append]; first|rfl | simp [bB]
  refine .g (aZ (j+1,v43,L43) ?_ ?_ ?_ ?_ ?_)
  ·exact (aA rfl (aA rfl (aA rfl (aA rfl eZ))))
  ·exact (mS .here rfl (mS aF rfl (mS aF rfl (mS aF rfl (mS aF rfl (mS aF rfl mN))))))
  ·(try dsimp only); omega
  ·exact hGl0
  refine ⟨?_,?_⟩
  ·(try dsimp only)<;>(omega)
  (try dsimp only)<;>(rw [eL43,eL,List.cons_append,←List.replicate_succ'])
 have c1k:=c1
 try simp only [aC,aD] at c1
 refine .exit (.xcode (.xlp (.xblk (.code (.seq (.seq (aM rfl rfl (aS rfl rfl (.nc (.block ?_))))))))))
 refine bE (α:=Nat×Value×List Y) (fun gh=>[(5,true,gh.2.1),(6,true,.int .i64 (56-8*(gh.1:Int)))]) (fun gh=>[rB gh.2.1 5 gh.2.2])
  (fun gh Gl=>(gh.1≤8)∧(gh.2.2=(128#8 :: List.replicate (jD xs.length) 0#8)++qB xs.length gh.1)) (fun gh=>8-gh.1) (0,_,_) [(2,true,_),(3,true,_),(4,true,_)] [_,_,_,_,_]
  (aA rfl (aO rfl (aA rfl (aA rfl (aA rfl eZ)))))
  (mS .here rfl (mS .here rfl (mS .here rfl (mS .here rfl (mS .here rfl (mS .here rfl mN)))))) ?_ ?_
 ·refine ⟨?_,?_⟩
  ·(try dsimp only)<;>(first|omega|rfl|assumption|(simp; done))
  (try dsimp only)<;>(rw [eL,show j=jD xs.length by omega]; simp [qB])
 intro gh N1 Gl1 hN1 hGl1 hF1
 obtain ⟨q,v,L⟩:=gh; dsimp only at hF1 hN1 ⊢
 obtain ⟨hq,eL⟩:=hF1
 have hK:=hK.mono hGl1
 have lL:L.length=jD xs.length+1+q:=by rw [eL]; simp [aDI]; omega
 refine .g (cP rfl rfl rfl rfl (.g (cD rfl (fun c2=>?_) (fun c2=>?_))))
 ·have c2k:=c2
  try simp only [aC,aD] at c2
  refine .g (iC (k:=.u64) rfl .no (.u rfl) (.u rfl) (by omega) ?_)
  refine cu (k:=.u64) rfl .no rfl kU (.u rfl) ?_
  refine Go.Tan.b1 rfl aH aY (.u rfl) rfl rfl (by decide) ?_; intro b53
  refine cF rfl aH aY (.u rfl) (.u rfl) aF (Sc.one .here) (by show _+1≤_; omega) ?_
  intro v54 L54 ov54 eL54
  have lL54:L54.length=L.length+1:=by rw [eL54,List.length_append]; first|rfl | simp [bB]
  refine .g (aR rfl rfl rfl rfl ?_)
  refine .g (aZ (q+1,v54,L54) ?_ ?_ ?_ ?_ ?_)
  ·exact (aA rfl (aO rfl (aA rfl (aA rfl (aA rfl eZ)))))
  ·exact (mS .here rfl (mS aF rfl (mS aF rfl (mS aF rfl (mS aF rfl (mS aF rfl mN))))))
  ·first|omega|(dsimp only; omega)
  ·exact hGl1
  refine ⟨?_,?_⟩
  ·(try dsimp only)<;>(first|omega|rfl|assumption|(simp; done))
  (try dsimp only)<;>(rw [eL54,eL,aG9,←List.append_assoc,aNy (by omega)]; rfl)
 have c2k:=c2
 try simp only [aC,aD] at c2
 refine .exit (.xcode (.xlp (.xblk (.code (.seq ?_)))))
 have e8:L=zW xs.length:=by rw [eL,show q=8 by omega]; rfl
 subst e8
 have lt:=aEC xs.length
 have hz:jD xs.length=(119-xs.length%64)%64:=rfl
 refine iR .here (aNq (mS bM rfl (mS bM rfl mN))) ?_; intro GfR31 hR31 hleR31 evR31 hsR31; subst evR31
 have hK:=hK.mono hleR31
 refine .g (ka rfl (.inr rfl) aEp (aB rfl (aB rfl aE)) (rM .here .here) (aDe xs (zW xs.length) _ _ _ _ hsR31 hK (by omega)) ?_)
 rintro _ G56 μ56 hG56 ⟨vq,rfl,rfl⟩
 refine .nil (.code (.seq (aM rfl rfl ?_)))
 refine al rfl fT ?_; intro b7
 refine .nil (.code (.seq (.seq (aM rfl rfl (mV rfl rfl (.nc (.block ?_)))))))
 refine bE (α:=Nat×(Nat→Y)) (fun gh=>[(57,true,.int .i64 (gh.1:Int))]) (fun gh=>[.blk b7 (cl (ba 32 gh.2) 23)])
  (fun gh Gl=>(gh.1≤32)∧(gh.2=fQ (gN xs) gh.1)) (fun gh=>32-gh.1) (0,fun _=>0#8) [(2,true,_),(3,true,_),(7,true,_)] [_,_,_,_,_]
  (aO rfl (aA rfl (aA rfl (aA rfl eZ))))
  (mS .here rfl (mS .here rfl (mS .here rfl (mS .here rfl (mS .here rfl (mS .here rfl mN)))))) ?_ ?_
 ·refine ⟨?_,?_⟩
  ·(try dsimp only)<;>(first|omega|rfl|assumption|(simp; done))
  (try dsimp only)<;>(first|omega|rfl|assumption|(simp; done))
 intro gh N2 Gl2 hN2 hGl2 hF2
 obtain ⟨i,f⟩:=gh; dsimp only at hF2 hN2 ⊢
 obtain ⟨hi,ef⟩:=hF2
 refine .g (cP rfl rfl rfl rfl (.g (cD rfl (fun c3=>?_) (fun c3=>?_))))
 ·have c3k:=c3
  try simp only [aC,aD] at c3
  refine .g (qun (i) (4) rfl .no (.u rfl) (.u rfl) (by omega) (by omega) (fun _=>by first|decide|omega) (by omega) ?_)
  refine fZ rfl oR rfl (iW rfl dI rfl rfl ?_)
  refine lO rfl bI rfl aF (by first|exact bF ((i / 4)) (by omega) (by omega)|exact cM ((i / 4)) (by omega) (by omega)|exact cV ((i / 4)) (by omega) (by omega)|rfl) ?_
  refine .p (zM (i) (4) rfl .no (.u rfl) (.u rfl) (by omega) (by omega) (fun _=>by first|decide|omega) ?_)
  refine dR (((8*(i%4)):Nat):Int) rfl .no (.u rfl) (.u rfl) rfl (by omega) (fun _=>cB (by omega) (by omega)) ?_
  refine dR (((24-8*(i%4)):Nat):Int) rfl .no (.u rfl) (.u rfl) rfl (by omega) (fun _=>cB (by omega) (by omega)) ?_
  refine iC (k:=.u32) rfl .no (.u rfl) (.u rfl) (by omega) ?_
  refine cu (k:=.u32) rfl .no rfl vA (.u rfl) ?_
  refine iW rfl gB rfl rfl ?_
  refine s1 rfl (.u rfl) (.u rfl) rfl fW .here (by first|decide|(simp only [bO,aU,bJ]; omega)) (by first|exact cU (i) (by omega)|exact hH (i) (by omega)|exact mD (i) (by omega) (by omega)|rfl) ?_
  refine .g (aW (((i+1):Nat):Int) rfl rfl rfl rfl ?_)
  refine .g (aZ (i+1,bA f i (gN xs i)) ?_ ?_ ?_ ?_ ?_)
  ·exact (aO rfl (aA rfl (aA rfl (aA rfl eZ))))
  ·exact (mS .here rfl (mS .here rfl (mS .here rfl (mS .here rfl (mS .here rfl (mS .here rfl mN))))))
  ·first|omega|(dsimp only; omega)
  ·exact hGl2
  refine ⟨?_,?_⟩
  ·(try dsimp only)<;>(first|omega|rfl|assumption|(simp; done))
  (try dsimp only)<;>(rw [ef]; rfl)
 have c3k:=c3
 try simp only [aC,aD] at c3
 refine .g (lB rfl cH rfl .here ?_)
 refine sW rfl rfl rfl rfl fH bM ?_
 refine .nil (.code (.ret (We.fin Tryz.results116 (.cell rfl (fun w hw=>bW cH (RdN.own .here) ((by first|exact qE|exact qL|rfl)) hw) .nil) (mS fG rfl (mS fG rfl mN)) ?_)))
 obtain rfl:i=32:=by omega
 exact ⟨rfl,by rw [ef,iJ (fun i hi=>(jU (gN xs) hi).symm)]; rfl⟩
theorem aS6:aQ Tryz.prog 136=true:=by kernel_rfl
theorem gP:cG Tryz.prog 53=some (34,1,24):=by kernel_rfl
theorem xP:(cG Tryz.prog 53).isSome=true:=by kernel_rfl
theorem aKT:aQ Tryz.prog 116=true:=by kernel_rfl
theorem rV (xs:List Y) (h:Sh) (n:BitVec 64) (many:Nat) (G:PM) (hs:SlR G 1 aL h xs) (hl:xs.length≤140737488351232) (hm:many≤8):Ct Tryz.prog 35 ([h.val xs.length,uv .u64 n,.int .i64 (many:Int)]:List Value).toArray G [] (PR 5 (fun L=>L=xs++cO n many)):=by
 refine Ct.of Tryz.func35 rfl Tryz.ntmps35 rfl fun w0 hs0=>?_
 refine .seq (aM rfl rfl (aS rfl rfl (.nc (.seq (gH rfl rfl ?_)))))
 refine mM rfl aH ?_; intro b8
 refine .p (nW rfl aH aY (.u rfl) (.u rfl) .here hs.sc (by (try simp only [bJ,bB]); omega) ?_)
 intro v10 L10 _ ov10 eL10
 have lL10:L10.length=xs.length:=by rw [eL10]
 refine .g (wK (many) (8) rfl .no (.u rfl) (.u rfl) (by omega) (by omega) ?_)
 refine mAn (0) ((min many 8)) rfl .no (.u rfl) (.u rfl) (by omega) (by omega) ?_
 refine mV rfl rfl (.nc (.block ?_))
 refine bE (α:=Nat×Value×List Y×BitVec 64) (fun gh=>[(1,true,uv .u64 gh.2.2.2),(7,true,gh.2.1),(14,true,.int .i64 (gh.1:Int))]) (fun gh=>[rB gh.2.1 5 gh.2.2.1])
  (fun gh Gl=>(gh.1≤many)∧(gh.2.2.1=xs++cO n gh.1)∧(gh.2.2.2=n >>> (8*gh.1))) (fun gh=>many-gh.1) (0,_,_,n) [(13,true,_)] []
  (aA rfl (aA rfl (aO rfl (aA rfl eZ))))
  (mS .here rfl mN) ?_ ?_
 ·refine ⟨?_,?_,?_⟩
  ·(try dsimp only)<;>(first|omega|rfl|assumption|(simp; done))
  ·(try dsimp only)<;>(rw [eL10]; simp [cO])
  (try dsimp only)<;>(simp)
 intro gh N0 Gl0 hN0 hGl0 hF0
 obtain ⟨k,v,L,m⟩:=gh; dsimp only at hF0 hN0 ⊢
 obtain ⟨hk,eL,em⟩:=hF0
 have lL:L.length=xs.length+k:=by rw [eL]; simp [gT]
 refine .g (cP rfl rfl rfl rfl (.g (cD rfl (fun c1=>?_) (fun c1=>?_))))
 ·have c1k:=c1
  try simp only [aC,aD] at c1
  refine .g (cu (k:=.u64) rfl .no rfl kU (.u rfl) ?_)
  refine Go.Tan.b1 rfl aH aY (.u rfl) rfl rfl (by decide) ?_; intro b19
  refine cF rfl aH aY (.u rfl) (.u rfl) aF (Sc.one .here) (by show _+1≤_; omega) ?_
  intro v20 L20 ov20 eL20
  have lL20:L20.length=L.length+1:=by rw [eL20,List.length_append]; first|rfl | simp [bB]
  refine .g (iC (k:=.u64) rfl .no (.u rfl) (.u rfl) (fun _=>by decide) ?_)
  refine .g (aW (((k+1):Nat):Int) rfl rfl rfl rfl ?_)
  refine .g (aZ (k+1,v20,L20,m >>> 8) ?_ ?_ ?_ ?_ ?_)
  ·exact (aA rfl (aA rfl (aO rfl (aA rfl eZ))))
  ·exact (mS .here rfl mN)
  ·first|omega|(dsimp only; omega)
  ·exact hGl0
  refine ⟨?_,?_,?_⟩
  ·(try dsimp only)<;>(first|omega|rfl|assumption|(simp; done))
  ·(try dsimp only)<;>(rw [eL20,eL,em,aGc,List.append_assoc]; rfl)
  (try dsimp only)<;>(rw [em,←BitVec.shiftRight_add]; rfl)
 have c1k:=c1
 try simp only [aC,aD] at c1
 refine .exit (.xcode (.xlp (.xblk (.code (.seq (bD rfl rfl (mV rfl rfl (aS rfl rfl (.nc (.ret (We.fin Tryz.results35 (.tmp rfl .nil) (mS .here rfl mN) ?_)))))))))))
 obtain rfl:k=many:=by omega
 exact ⟨L,eL,rfl⟩
theorem aET (key nonce:Nat→Y) (count:W) (h:Sh) (xs:List Y) (G:PM) (hs:SlR G 1 aL h xs) (hl:xs.length≤140737488351232):Ct Tryz.prog 112 ([.agg (ba 32 key).toArray,.agg (ba 12 nonce).toArray,U count,h.val xs.length]:List Value).toArray G [] (PR 5 (fun L=>L=iZ key nonce count xs)):=by
 refine Ct.of Tryz.func112 rfl Tryz.ntmps112 rfl fun w0 hs0=>?_
 refine .seq (eH rfl rfl ?_)
 refine bX rfl rfl rfl ?_; intro b4
 refine bX rfl rfl rfl ?_; intro b5
 refine aS rfl rfl (.nc (.seq (gH rfl rfl ?_)))
 refine mM rfl aH ?_; intro b14
 refine .p (nW rfl aH aY (.u rfl) (.u rfl) .here hs.sc (by (try simp only [bJ,bB]); omega) ?_)
 intro v16 L16 _ ov16 eL16
 have lL16:L16.length=xs.length:=by rw [eL16]
 refine aS rfl rfl (.nc (.seq (.seq ?_)))
 refine aAB .here ?_; intro sR16 bbR16 evR16 lcR16 oaR16; subst evR16
 obtain rfl:=eL16.symm
 refine bD rfl rfl (mV rfl rfl (aS rfl rfl (.nc (.block ?_))))
 refine bE (α:=Nat×Sh×List Y) (fun gh=>[(2,true,U (count+BitVec.ofNat 32 gh.1)),(10,true,gh.2.1.val (xs.length-64*gh.1))]) (fun gh=>[rB (sR16.val xs.length) 5 gh.2.2])
  (fun gh Gl=>(gh.2.2.length=xs.length)∧(gh.2.2=mO key nonce count xs (64*gh.1))∧(64*gh.1<xs.length→gh.2.1.oa=some ⟨bbR16,64*gh.1,none⟩)∧(xs.length-64*gh.1≤gh.2.1.cap)) (fun gh=>xs.length-64*gh.1) (0,sR16,xs) [(4,true,_),(5,true,_),(9,true,_)] [_,_]
  (fD rfl (by simp) (aA rfl (aA rfl (aA rfl (aA rfl eZ)))))
  (mS .here rfl (mS .here rfl (mS .here rfl mN))) ?_ ?_
 ·refine ⟨?_,?_,?_,?_⟩
  ·(try dsimp only)<;>(rfl)
  ·(try dsimp only)<;>(exact (aMh _ _ _ _).symm)
  ·(try dsimp only)<;>(exact oaR16)
  (try dsimp only)<;>(exact lcR16)
 intro gh N0 Gl0 hN0 hGl0 hF0
 obtain ⟨j,r,L⟩:=gh; dsimp only at hF0 hN0 ⊢
 obtain ⟨lL,eL,hr,hrc⟩:=hF0
 refine .g (lE rfl bK rfl (cP rfl rfl rfl rfl (.g (cD rfl (fun c1=>?_) (fun c1=>?_)))))
 ·have c1k:=c1
  try simp only [aC,aD] at c1
  refine .skip (.code (.seq (.block (.seq ?_))))
  have hlt:64*j<xs.length:=by omega
  have e1:=oaR16 (by omega)
  have e2:=hr hlt
  obtain ⟨so,sc⟩:=sR16
  obtain ⟨ro,rc⟩:=r
  simp only at e1 e2
  subst e1; subst e2
  refine .g (lB rfl uY rfl aT ?_)
  refine lB rfl aJ1 rfl aF ?_
  refine .p (kV rfl aS6 (aB rfl (aB rfl (aB rfl aE))) (aJu _ _ _ _) ?_)
  refine al rfl rA ?_; intro b11
  refine sw rfl (.u rfl) (.u rfl) rfl jL .here (by first|exact qE|exact qL|rfl) (dW _ _) ?_
  refine .g (lE rfl bK rfl (wK ((xs.length-64*j)) (64) rfl .no (.u rfl) (.u rfl) (by omega) (by omega) ?_))
  refine aS rfl rfl (.nc (.seq (.seq (bD rfl rfl (mV rfl rfl (mV rfl rfl (.nc (.block ?_))))))))
  refine bE (α:=Nat×List Y) (fun gh=>[(31,true,.int .i64 (gh.1:Int))]) (fun gh=>[rB (Sh.val ⟨some ⟨bbR16,0,none⟩,sc⟩ xs.length) 5 gh.2])
   (fun gh Gl=>(gh.1≤min (xs.length-64*j) 64)∧(gh.2=mO key nonce count xs (64*j+gh.1))) (fun gh=>64-gh.1) (0,L) [(2,true,_),(4,true,_),(5,true,_),(9,true,_),(10,true,_),(11,true,_),(12,true,_),(30,true,_)] [_,_,_]
   (aO rfl (aA rfl (aA rfl (aA rfl (aA rfl (aA rfl (aA rfl (aA rfl (aA rfl eZ)))))))))
   (mS aF rfl (mS .here rfl (mS .here rfl (mS .here rfl mN)))) ?_ ?_
  ·refine ⟨?_,?_⟩
   ·(try dsimp only)<;>(exact Nat.zero_le _)
   (try dsimp only)<;>(rw [eL]; rfl)
  intro gh N1 Gl1 hN1 hGl1 hF1
  obtain ⟨i,L2⟩:=gh; dsimp only at hF1 hN1 ⊢
  obtain ⟨hi,eL2⟩:=hF1
  have lL2:L2.length=xs.length:=by rw [eL2,aF5]
  refine .g (cP rfl rfl rfl rfl (.g (cD rfl (fun c2=>?_) (fun c2=>?_))))
  ·have c2k:=c2
   try simp only [aC,aD] at c2
   refine .g (bG (mc:=⟨false,false⟩) [0,1,2,3,4,5,6,7,8,9] aV (by kernel_rfl) ?_)
   refine mV rfl rfl (mV rfl rfl (ih rfl .no aH (.u rfl) (.u rfl) (by omega) (by omega) (fun _=>rfl) ?_))
   refine lN rfl cA rfl (Rd.row .here (pC (o:=64*j) (64*j+i) (by omega) (by omega))) ?_
   refine .p (iW rfl jE rfl rfl ?_)
   refine lO rfl cA rfl aF (by first|exact bF (i) (by omega) (by omega)|exact cM (i) (by omega) (by omega)|exact cV (i) (by omega) (by omega)|rfl) ?_
   refine bw (k:=.u8) rfl .no rfl (.u rfl) (.u rfl) rfl (ih rfl .no aH (.u rfl) (.u rfl) (by omega) (by omega) (fun _=>rfl) ?_)
   refine s1r rfl (.u rfl) (.u rfl) fW .here (by show 64*j+_*1<_; omega) ?_; intro L9 eL9 lL9
   refine .g (aW (((i+1):Nat):Int) rfl rfl rfl rfl ?_)
   refine .g (aZ (i+1,L9) ?_ ?_ ?_ ?_ ?_)
   ·exact (aO rfl (aA rfl (aA rfl (aA rfl (aA rfl (aA rfl (aA rfl (aA rfl (aA rfl eZ)))))))))
   ·exact (mS .here rfl (mS .here rfl (mS .here rfl (mS .here rfl mN))))
   ·first|omega|(dsimp only; omega)
   ·exact hGl1
   refine ⟨?_,?_⟩
   ·(try dsimp only)<;>(omega)
   (try dsimp only)<;>(rw [eL9,eL2,show (Sh.o ⟨some ⟨bbR16,64*j,none⟩,rc⟩+(i:Int).toNat*1)=64*j+i from (by show 64*j+_*1=_; omega)]; exact aMg (xs:=xs) (j:=j) (i:=i) (by omega) (by omega))
  have c2k:=c2
  try simp only [aC,aD] at c2
  refine .g (sd rfl .no aH (.u rfl) (.u rfl) (by omega) (by omega) ?_)
  refine .g (bw (k:=.u32) (b:=1#32) rfl .no rfl (.u rfl) (.u rfl) rfl (.g (aZ (j+1,Sh.cut ⟨some ⟨bbR16,64*j,none⟩,rc⟩ (min (xs.length-64*j) 64) 1,L2) ?_ ?_ ?_ ?_ ?_)))
  ·exact (fD rfl (by show U (count+BitVec.ofNat 32 j+1#32)=U (count+BitVec.ofNat 32 (j+1)); rw [BitVec.add_assoc,←BitVec.ofNat_add]) (fD rfl (congrArg (Sh.val _) (by omega)) (aA rfl (aA rfl (aA rfl eZ)))))
  ·exact (mS .here (by rfl) (mS aF rfl (mS aF rfl mN)))
  ·first|omega|(dsimp only; omega)
  ·exact (hGl0).trans hGl1
  refine ⟨?_,?_,?_,?_⟩
  ·(try dsimp only)<;>(rw [eL2,aF5])
  ·(try dsimp only)<;>(rw [eL2]; exact aMi (by omega))
  ·(try dsimp only)<;>(intro h3; have hrc2:xs.length-64*j≤rc:=hrc; exact aMn (by omega) (by omega))
  (try dsimp only)<;>(show _≤rc-_; have hrc2:xs.length-64*j≤rc:=hrc; omega)
 have c1k:=c1
 try simp only [aC,aD] at c1
 refine .exit (.xcode (.xlp (.xblk (.code (.seq (bD rfl rfl (mV rfl rfl (aS rfl rfl (.nc (.ret (We.fin Tryz.results112 (.tmp rfl .nil) (mS .here rfl mN) ?_)))))))))))
 exact ⟨L,by rw [eL,aMf (by omega)],rfl⟩
theorem zT (ps:List (Sh×List Y)) (h:Sh) (G:PM) (hs:SlP G h ps) (hK:RdNP G 1 0 (wa 64 kW)) (hl:(cN ps).length≤1152921504606846976) (hn:ps.length≤1000):Ct Tryz.prog 76 ([h.val ps.length]:List Value).toArray G [] (fun _ μ' u=>μ'=[]∧u=.agg (ba 32 (gN (cN ps))).toArray):=by
 refine Ct.of Tryz.func76 rfl Tryz.ntmps76 rfl fun w0 hs0=>?_
 refine .seq (aM rfl rfl ?_)
 refine al rfl fT ?_; intro b2
 refine .g (kv rfl .no aEo aE (fun _=>aCU _) ?_)
 refine al rfl aCC ?_; intro b3
 refine sw rfl (.u rfl) (.u rfl) rfl aAV .here (by rfl) (nK (nA _ _) (pG rfl rfl)) ?_
 refine .nil (jW 5 ?_)
 refine .g (lE rfl xP rfl (mV rfl rfl (.nc (.block ?_))))
 refine bE (α:=Nat×Value) (fun gh=>[(9,true,.int .i64 (gh.1:Int))]) (fun gh=>[rB gh.2 5 (eT (cN (ps.take gh.1))),.blk b3 (cl (iP (cN (ps.take gh.1)) gh.2) 168)])
  (fun gh Gl=>(gh.1≤ps.length)) (fun gh=>ps.length-gh.1) (0,.slice none 0 0) [(2,true,_),(3,true,_),(7,true,_),(8,true,_)] [_]
  (aO rfl (aA rfl (aA rfl (aA rfl (aA rfl eZ)))))
  (mS .here (by simp [eT,cN]) (mS .here rfl (mS .here rfl mN))) ?_ ?_
 ·(try dsimp only)<;>(first|omega|rfl|assumption|(simp; done))
 intro gh N0 Gl0 hN0 hGl0 hF0
 obtain ⟨k,vq⟩:=gh; dsimp only at hF0 hN0 ⊢
 have hk:=hF0
 have hs:=hs.mono hGl0
 have hK:=hK.mono hGl0
 refine .g (cP rfl rfl rfl rfl (.g (cD rfl (fun c1=>?_) (fun c1=>?_))))
 ·have c1k:=c1
  try simp only [aC,aD] at c1
  refine .skip (.code (.seq (.block (.seq (eH rfl rfl (ih rfl .no gP (.u rfl) (.u rfl) (by omega) (by omega) (fun _=>hs.sl.nn (k:=k) (by omega)) ?_))))))
  obtain ⟨p12,ep12⟩:=dO (k:=k) (xs:=ps) (by omega)
  have hq12:=hs.get ep12
  refine lN rfl bV rfl ((hs.at (k) (by omega) ep12).rd) ?_
  refine .g (ka rfl (.inr rfl) aEp (aB rfl (aB rfl aE)) (rM aF .here) (aDe (cN (ps.take k)) p12.2 _ _ _ _ hq12 hK (by have:=aCg ep12; omega)) ?_)
  rintro _ G14 μ14 hG14 ⟨vq',rfl,rfl⟩
  have hK:=hK.mono hG14
  refine .g (aW (((k+1):Nat):Int) rfl rfl rfl rfl ?_)
  refine .g (aZ (k+1,vq') ?_ ?_ ?_ ?_ ?_)
  ·exact (aO rfl (aA rfl (aA rfl (aA rfl (aA rfl eZ)))))
  ·exact (mS aF (by rw [vQ ep12]) (mS .here (by rw [vQ ep12]) (mS .here rfl mN)))
  ·first|omega|(dsimp only; omega)
  ·exact (hGl0).trans hG14
  (try dsimp only)<;>(first|omega|rfl|assumption|(simp; done))
 have c1k:=c1
 try simp only [aC,aD] at c1
 refine .exit (.xcode (.xlp (.xblk (.code (.seq ?_)))))
 obtain rfl:k=ps.length:=by omega
 rw [List.take_length]
 refine .g (ka rfl (.inr rfl) aKT (aB rfl aE) (rM aF .here) (aFC (cN ps) _ _ _ hK hl) ?_)
 rintro _ G16 μ16 hG16 ⟨rfl,rfl⟩
 refine sW rfl rfl rfl rfl fH aT ?_
 refine .nil (.code (.ret (aP Tryz.results76 (.cell rfl (fun w hw=>bW cH (RdN.own .here) ((by first|exact qE|exact qL|rfl)) hw) .nil) ?_)))
 exact ⟨rfl,rfl⟩
theorem jM:(Tryz.prog.info? 34).bind (·.zero)=some (.slice none 0 0):=by kernel_rfl
theorem aAS:aQ Tryz.prog 76=true:=by kernel_rfl
theorem SlP.one {G:PM} {b T:Nat} {h1:Sh} {L1:List Y} (hle:PM.le G (G.add b (cl [h1.val L1.length] T))) (hs:SlR G 1 aL h1 L1):SlP (G.add b (cl [h1.val L1.length] T)) ⟨some ⟨b,0,none⟩,1⟩ [(h1,L1)] :=
 ⟨nD (T:=T) (iF _ _ _) (fun _ _=>rfl) (by simp),fun p hp=>by rw [List.mem_singleton.1 hp]; exact hs.mono hle⟩
theorem aLI {G:PM} {b T:Nat} {h1 h2:Sh} {L1 L2:List Y} (hle:PM.le G (G.add b (cl [h1.val L1.length,h2.val L2.length] T))) (hs:SlR G 1 aL h1 L1) (hs2:SlR G 1 aL h2 L2):SlP (G.add b (cl [h1.val L1.length,h2.val L2.length] T)) ⟨some ⟨b,0,none⟩,2⟩ [(h1,L1),(h2,L2)] :=
 ⟨nD (T:=T) (iF _ _ _) (fun _ _=>rfl) (by simp),fun p hp=>by
  rcases List.mem_cons.1 hp with rfl | hp
  ·exact hs.mono hle
  ·rw [List.mem_singleton.1 hp]; exact hs2.mono hle⟩
theorem SlP.four {G:PM} {b T:Nat} {h1 h2 h3 h4:Sh} {L1 L2 L3 L4:List Y} (hle:PM.le G (G.add b (cl [h1.val L1.length,h2.val L2.length,h3.val L3.length,h4.val L4.length] T))) (hs:SlR G 1 aL h1 L1) (hs2:SlR G 1 aL h2 L2) (hs3:SlR G 1 aL h3 L3) (hs4:SlR G 1 aL h4 L4) :
  SlP (G.add b (cl [h1.val L1.length,h2.val L2.length,h3.val L3.length,h4.val L4.length] T)) ⟨some ⟨b,0,none⟩,4⟩ [(h1,L1),(h2,L2),(h3,L3),(h4,L4)] :=
 ⟨nD (T:=T) (iF _ _ _) (fun _ _=>rfl) (by simp),fun p hp=>by
  simp only [List.mem_cons,List.not_mem_nil,or_false] at hp
  rcases hp with rfl|rfl|rfl|rfl
  ·exact hs.mono hle
  ·exact hs2.mono hle
  ·exact hs3.mono hle
  ·exact hs4.mono hle⟩
theorem aRI {G:PM} {b T:Nat} {h1:Sh} {L1:List Y} (hle:PM.le G (G.add b (cl [h1.val L1.length] T))) (hs:SlR G 1 aL h1 L1) (hK:RdNP G 1 0 (wa 64 kW)) (hl:L1.length≤1152921504606846976):Ct Tryz.prog 76 ([.slice (some ⟨b,0,none⟩) 1 1]:List Value).toArray (G.add b (cl [h1.val L1.length] T)) [] (fun _ μ' u=>μ'=[]∧u=.agg (ba 32 (gN L1)).toArray):=by
 have h:=zT [(h1,L1)] ⟨some ⟨b,0,none⟩,1⟩ _ (SlP.one hle hs) (hK.mono hle) (by simpa [cN] using hl) (by simp)
 rw [show cN [(h1,L1)]=L1 by simp [cN]] at h
 exact h
theorem aRJ {G:PM} {b T:Nat} {h1 h2:Sh} {L1 L2:List Y} (hle:PM.le G (G.add b (cl [h1.val L1.length,h2.val L2.length] T))) (hs:SlR G 1 aL h1 L1) (hs2:SlR G 1 aL h2 L2) (hK:RdNP G 1 0 (wa 64 kW)) (hl:L1.length+L2.length≤1152921504606846976):Ct Tryz.prog 76 ([.slice (some ⟨b,0,none⟩) 2 2]:List Value).toArray (G.add b (cl [h1.val L1.length,h2.val L2.length] T)) [] (fun _ μ' u=>μ'=[]∧u=.agg (ba 32 (gN (L1++L2))).toArray):=by
 have h:=zT [(h1,L1),(h2,L2)] ⟨some ⟨b,0,none⟩,2⟩ _ (aLI hle hs hs2) (hK.mono hle) (by simpa [cN] using hl) (by simp)
 rw [show cN [(h1,L1),(h2,L2)]=L1++L2 by simp [cN]] at h
 exact h
theorem aBG {f g:Nat→Y} {k:Nat} {a b:Y} (ef:f=fQ g k) (h:b=g k):bA (bA f k a) k b=fQ g (k+1):=by
 rw [aEI,ef,h]; rfl
theorem wM {f g:Nat→Y} {k:Nat} {a:Y} (ef:f=fQ g k) (h:a=g k):bA f k a=fQ g (k+1):=by
 rw [ef,h]; rfl
theorem aOn (key:List Y) (h:Sh) (G:PM) (hs:SlR G 1 aL h key) (hK:RdNP G 1 0 (wa 64 kW)) (hl:key.length≤140737488351232):Ct Tryz.prog 147 ([h.val key.length]:List Value).toArray G [] (fun _ μ' u=>μ'=[]∧u=.tuple #[.agg (ba 64 (dY key 54#8)).toArray,.agg (ba 64 (dY key 92#8)).toArray]):=by
 refine Ct.of Tryz.func147 rfl Tryz.ntmps147 rfl fun w0 hs0=>?_
 refine .seq (bD rfl rfl ?_)
 refine al rfl rA ?_; intro b2
 refine al rfl rA ?_; intro b3
 refine .g (lE rfl bK rfl (cP rfl rfl rfl rfl (.g (cD rfl (fun c1=>?_) (fun c1=>?_)))))
 ·have c1k:=c1
  try simp only [aC,aD] at c1
  have ek1:oF key=aBg key:=by unfold oF; rw [if_pos (by omega)]
  refine .seq (oK rfl rfl (mV rfl rfl ?_))
  refine Go.Tan.b1 rfl gP jM (.u rfl) rfl rfl (by decide) ?_; intro b10
  refine kp rfl .no aAS (aB rfl aE) (Gp.add .here Gp.nil) (fun _ hle hq=>aRI hle hs hK (by omega)) ?_
  refine al rfl fT ?_; intro b4
  refine sW rfl rfl rfl rfl fH .here ?_
  refine .nil (.code ?_)
  refine fS .here (by intro b hb; cases hb) ?_; intro Gfb4 hleb4 hbb4
  have hs:=hs.mono hleb4
  refine bD rfl rfl ?_
  refine kA rfl .no gB (.u rfl) hbb4 (by first|exact iY|exact gE|exact iX) ?_; intro h12 L12 eL12 lL12 hs12
  refine aS rfl rfl (.nil ?_)
  have ek1:oF key=L12:=by rw [ek1,eL12]; rfl
  refine .code (.seq (.seq ?_))
  skip
  refine aM rfl rfl (mV rfl rfl (.nc (.block ?_)))
  refine bE (α:=Nat×(Nat→Y)×(Nat→Y)) (fun gh=>[(13,true,.int .i64 (gh.1:Int))]) (fun gh=>[.blk b3 (cl (ba 64 gh.2.2) 188),.blk b2 (cl (ba 64 gh.2.1) 188)])
   (fun gh Gl=>(gh.1≤64)∧(gh.2.1=fQ (dY key 54#8) gh.1)∧(gh.2.2=fQ (dY key 92#8) gh.1)) (fun gh=>64-gh.1) (0,fun _=>0#8,fun _=>0#8) [(0,true,_),(2,true,_),(3,true,_)] [_]
   (aO rfl (aA rfl (aA rfl (aA rfl eZ))))
   (mS aF rfl (mS aF rfl (mS .here rfl mN))) ?_ ?_
  ·refine ⟨?_,?_,?_⟩
   ·(try dsimp only)<;>(first|omega|rfl|assumption|(simp; done))
   ·(try dsimp only)<;>(first|omega|rfl|assumption|(simp; done))
   (try dsimp only)<;>(first|omega|rfl|assumption|(simp; done))
  intro gh N0 Gl0 hN0 hGl0 hF0
  obtain ⟨k,f,f2⟩:=gh; dsimp only at hF0 hN0 ⊢
  obtain ⟨hk,ef,ef2⟩:=hF0
  have hs:=hs.mono hGl0
  have hs12:=hs12.mono hGl0
  refine .g (cP rfl rfl rfl rfl (.g (cD rfl (fun c2=>?_) (fun c2=>?_))))
  ·have c2k:=c2
   try simp only [aC,aD] at c2
   refine .g (iW rfl jE rfl rfl ?_)
   refine s1 rfl (.u rfl) (.u rfl) rfl fW aF (by first|decide|(simp only [bO,aU,bJ]; omega)) (by first|exact hH (z:=54#8) (k) (by omega)|exact cU (z:=54#32) (k) (by omega)|rfl) ?_
   refine iW rfl jE rfl rfl ?_
   refine s1 rfl (.u rfl) (.u rfl) rfl fW aF (by first|decide|(simp only [bO,aU,bJ]; omega)) (by first|exact hH (z:=92#8) (k) (by omega)|exact cU (z:=92#32) (k) (by omega)|rfl) ?_
   refine .g (lE rfl bK rfl (cP rfl rfl rfl rfl (.g (cD rfl (fun c3=>?_) (fun c3=>?_)))))
   ·have c3k:=c3
    try simp only [aC,aD] at c3
    refine .seq (bG (mc:=⟨false,false⟩) [0,1,2,3,4,5,6,7,8,9] aV (by kernel_rfl) ?_)
    refine .p (iW rfl jE rfl rfl ?_)
    refine lO rfl cA rfl aF (by first|exact bF (k) (by omega) (by omega)|exact cM (k) (by omega) (by omega)|exact cV (k) (by omega) (by omega)|rfl) ?_
    refine mV rfl rfl (mV rfl rfl (ih rfl .no aH (.u rfl) (.u rfl) (by omega) (by omega) (fun _=>hs12.nn (k:=k) (by omega)) ?_))
    refine lN rfl cA rfl ((hs12.yat (k) (by omega) (by omega)).rd) ?_
    refine bw (k:=.u8) rfl .no rfl (.u rfl) (.u rfl) rfl (iW rfl jE rfl rfl ?_)
    refine s1 rfl (.u rfl) (.u rfl) rfl fW aF (by first|decide|(simp only [bO,aU,bJ]; omega)) (by first|exact cU (k) (by omega)|exact hH (k) (by omega)|exact mD (k) (by omega) (by omega)|rfl) ?_
    refine .g (bG (mc:=⟨false,false⟩) [0,1,2,3,4,5,6,7,8,9] aV (by kernel_rfl) ?_)
    refine .p (iW rfl jE rfl rfl ?_)
    refine lO rfl cA rfl aF (by first|exact bF (k) (by omega) (by omega)|exact cM (k) (by omega) (by omega)|exact cV (k) (by omega) (by omega)|rfl) ?_
    refine mV rfl rfl (mV rfl rfl (ih rfl .no aH (.u rfl) (.u rfl) (by omega) (by omega) (fun _=>hs12.nn (k:=k) (by omega)) ?_))
    refine lN rfl cA rfl ((hs12.yat (k) (by omega) (by omega)).rd) ?_
    refine bw (k:=.u8) rfl .no rfl (.u rfl) (.u rfl) rfl (iW rfl jE rfl rfl ?_)
    refine s1 rfl (.u rfl) (.u rfl) rfl fW aF (by first|decide|(simp only [bO,aU,bJ]; omega)) (by first|exact cU (k) (by omega)|exact hH (k) (by omega)|exact mD (k) (by omega) (by omega)|rfl) ?_
    refine .g (aW (((k+1):Nat):Int) rfl rfl rfl rfl ?_)
    refine .g (aZ (k+1,bA (bA f k 54#8) k (bA f k 54#8 k ^^^ L12.getD k 0),bA (bA f2 k 92#8) k (bA f2 k 92#8 k ^^^ L12.getD k 0)) ?_ ?_ ?_ ?_ ?_)
    ·exact (aO rfl (aA rfl (aA rfl (aA rfl eZ))))
    ·exact (mS .here rfl (mS .here rfl (mS .here rfl mN)))
    ·first|omega|(dsimp only; omega)
    ·exact hGl0
    refine ⟨?_,?_,?_⟩
    ·(try dsimp only)<;>(first|omega|rfl|assumption|(simp; done))
    ·(try dsimp only)<;>(exact aBG ef (by rw [uU,dY,ek1,if_pos (by omega)]))
    (try dsimp only)<;>(exact aBG ef2 (by rw [uU,dY,ek1,if_pos (by omega)]))
   have c3k:=c3
   try simp only [aC,aD] at c3
   refine .g (aW (((k+1):Nat):Int) rfl rfl rfl rfl ?_)
   refine .g (aZ (k+1,bA f k 54#8,bA f2 k 92#8) ?_ ?_ ?_ ?_ ?_)
   ·exact (aO rfl (aA rfl (aA rfl (aA rfl eZ))))
   ·exact (mS .here rfl (mS .here rfl (mS .here rfl mN)))
   ·first|omega|(dsimp only; omega)
   ·exact hGl0
   refine ⟨?_,?_,?_⟩
   ·(try dsimp only)<;>(first|omega|rfl|assumption|(simp; done))
   ·(try dsimp only)<;>(exact wM ef (by rw [dY,ek1,if_neg (by omega)]))
   (try dsimp only)<;>(exact wM ef2 (by rw [dY,ek1,if_neg (by omega)]))
  have c2k:=c2
  try simp only [aC,aD] at c2
  refine .exit (.xcode (.xlp (.xblk (.code (.seq (aFH aV rfl ?_))))))
  refine WoT.n2 0 1 (by kernel_rfl) ?_ ?_
  ·refine lB rfl gI rfl aF ?_
   refine .nil (WoT.n2 1 2 (by kernel_rfl) ?_ ?_)
   ·refine lB rfl gI rfl .here ?_
    refine .nil (WoT.n1 2 (by kernel_rfl) ?_)
    refine sW rfl rfl rfl rfl jL aF ?_
    refine .nil (WoT.n1 3 (by kernel_rfl) ?_)
    refine sW rfl rfl rfl rfl jL aF ?_
    refine .nil (WoT.last (by kernel_rfl) ?_)
    refine .code (.ret (aP Tryz.results147 (.cell rfl (fun w hw=>bW gI (RdN.own aF) ((by first|exact qE|exact qL|rfl)) hw) (.cell rfl (fun w hw=>bW gI (RdN.own .here) ((by first|exact qE|exact qL|rfl)) hw) .nil)) ?_))
    obtain rfl:k=64:=by omega
    exact ⟨rfl,by rw [ef,ef2,iJ (fun i hi=>jU (dY key 54#8) hi),iJ (fun i hi=>jU (dY key 92#8) hi)]; rfl⟩
   refine sW rfl rfl rfl rfl jL aF ?_
   refine .nil (WoT.n1 1 (by kernel_rfl) ?_)
   refine lB rfl gI rfl aF ?_
   refine .nil (WoT.n1 3 (by kernel_rfl) ?_)
   refine sW rfl rfl rfl rfl jL aF ?_
   refine .nil (WoT.last (by kernel_rfl) ?_)
   refine .code (.ret (aP Tryz.results147 (.cell rfl (fun w hw=>bW gI (RdN.own aF) ((by first|exact qE|exact qL|rfl)) hw) (.cell rfl (fun w hw=>bW gI (RdN.own .here) ((by first|exact qE|exact qL|rfl)) hw) .nil)) ?_))
   obtain rfl:k=64:=by omega
   exact ⟨rfl,by rw [ef,ef2,iJ (fun i hi=>jU (dY key 54#8) hi),iJ (fun i hi=>jU (dY key 92#8) hi)]; rfl⟩
  refine lB rfl gI rfl .here ?_
  refine .nil (WoT.n1 0 (by kernel_rfl) ?_)
  refine lB rfl gI rfl aF ?_
  refine .nil (WoT.n1 2 (by kernel_rfl) ?_)
  refine sW rfl rfl rfl rfl jL aF ?_
  refine .nil (WoT.n1 3 (by kernel_rfl) ?_)
  refine sW rfl rfl rfl rfl jL aF ?_
  refine .nil (WoT.last (by kernel_rfl) ?_)
  refine .code (.ret (aP Tryz.results147 (.cell rfl (fun w hw=>bW gI (RdN.own aF) ((by first|exact qE|exact qL|rfl)) hw) (.cell rfl (fun w hw=>bW gI (RdN.own .here) ((by first|exact qE|exact qL|rfl)) hw) .nil)) ?_))
  obtain rfl:k=64:=by omega
  exact ⟨rfl,by rw [ef,ef2,iJ (fun i hi=>jU (dY key 54#8) hi),iJ (fun i hi=>jU (dY key 92#8) hi)]; rfl⟩
 have c1k:=c1
 try simp only [aC,aD] at c1
 have ek2:oF key=key:=by unfold oF; rw [if_neg (by omega)]
 refine .skip (.code (.seq (.seq ?_)))
 skip
 refine aM rfl rfl (mV rfl rfl (.nc (.block ?_)))
 refine bE (α:=Nat×(Nat→Y)×(Nat→Y)) (fun gh=>[(13,true,.int .i64 (gh.1:Int))]) (fun gh=>[.blk b3 (cl (ba 64 gh.2.2) 188),.blk b2 (cl (ba 64 gh.2.1) 188)])
  (fun gh Gl=>(gh.1≤64)∧(gh.2.1=fQ (dY key 54#8) gh.1)∧(gh.2.2=fQ (dY key 92#8) gh.1)) (fun gh=>64-gh.1) (0,fun _=>0#8,fun _=>0#8) [(0,true,_),(2,true,_),(3,true,_)] []
  (aO rfl (aA rfl (aA rfl (aA rfl eZ))))
  (mS .here rfl (mS .here rfl mN)) ?_ ?_
 ·refine ⟨?_,?_,?_⟩
  ·(try dsimp only)<;>(first|omega|rfl|assumption|(simp; done))
  ·(try dsimp only)<;>(first|omega|rfl|assumption|(simp; done))
  (try dsimp only)<;>(first|omega|rfl|assumption|(simp; done))
 intro gh N1 Gl1 hN1 hGl1 hF1
 obtain ⟨k,f,f2⟩:=gh; dsimp only at hF1 hN1 ⊢
 obtain ⟨hk,ef,ef2⟩:=hF1
 have hs:=hs.mono hGl1
 refine .g (cP rfl rfl rfl rfl (.g (cD rfl (fun c4=>?_) (fun c4=>?_))))
 ·have c4k:=c4
  try simp only [aC,aD] at c4
  refine .g (iW rfl jE rfl rfl ?_)
  refine s1 rfl (.u rfl) (.u rfl) rfl fW aF (by first|decide|(simp only [bO,aU,bJ]; omega)) (by first|exact hH (z:=54#8) (k) (by omega)|exact cU (z:=54#32) (k) (by omega)|rfl) ?_
  refine iW rfl jE rfl rfl ?_
  refine s1 rfl (.u rfl) (.u rfl) rfl fW aF (by first|decide|(simp only [bO,aU,bJ]; omega)) (by first|exact hH (z:=92#8) (k) (by omega)|exact cU (z:=92#32) (k) (by omega)|rfl) ?_
  refine .g (lE rfl bK rfl (cP rfl rfl rfl rfl (.g (cD rfl (fun c5=>?_) (fun c5=>?_)))))
  ·have c5k:=c5
   try simp only [aC,aD] at c5
   refine .seq (bG (mc:=⟨false,false⟩) [0,1,2,3,4,5,6,7,8,9] aV (by kernel_rfl) ?_)
   refine .p (iW rfl jE rfl rfl ?_)
   refine lO rfl cA rfl aF (by first|exact bF (k) (by omega) (by omega)|exact cM (k) (by omega) (by omega)|exact cV (k) (by omega) (by omega)|rfl) ?_
   refine mV rfl rfl (mV rfl rfl (ih rfl .no aH (.u rfl) (.u rfl) (by omega) (by omega) (fun _=>hs.nn (k:=k) (by omega)) ?_))
   refine lN rfl cA rfl ((hs.yat (k) (by omega) (by omega)).rd) ?_
   refine bw (k:=.u8) rfl .no rfl (.u rfl) (.u rfl) rfl (iW rfl jE rfl rfl ?_)
   refine s1 rfl (.u rfl) (.u rfl) rfl fW aF (by first|decide|(simp only [bO,aU,bJ]; omega)) (by first|exact cU (k) (by omega)|exact hH (k) (by omega)|exact mD (k) (by omega) (by omega)|rfl) ?_
   refine .g (bG (mc:=⟨false,false⟩) [0,1,2,3,4,5,6,7,8,9] aV (by kernel_rfl) ?_)
   refine .p (iW rfl jE rfl rfl ?_)
   refine lO rfl cA rfl aF (by first|exact bF (k) (by omega) (by omega)|exact cM (k) (by omega) (by omega)|exact cV (k) (by omega) (by omega)|rfl) ?_
   refine mV rfl rfl (mV rfl rfl (ih rfl .no aH (.u rfl) (.u rfl) (by omega) (by omega) (fun _=>hs.nn (k:=k) (by omega)) ?_))
   refine lN rfl cA rfl ((hs.yat (k) (by omega) (by omega)).rd) ?_
   refine bw (k:=.u8) rfl .no rfl (.u rfl) (.u rfl) rfl (iW rfl jE rfl rfl ?_)
   refine s1 rfl (.u rfl) (.u rfl) rfl fW aF (by first|decide|(simp only [bO,aU,bJ]; omega)) (by first|exact cU (k) (by omega)|exact hH (k) (by omega)|exact mD (k) (by omega) (by omega)|rfl) ?_
   refine .g (aW (((k+1):Nat):Int) rfl rfl rfl rfl ?_)
   refine .g (aZ (k+1,bA (bA f k 54#8) k (bA f k 54#8 k ^^^ key.getD k 0),bA (bA f2 k 92#8) k (bA f2 k 92#8 k ^^^ key.getD k 0)) ?_ ?_ ?_ ?_ ?_)
   ·exact (aO rfl (aA rfl (aA rfl (aA rfl eZ))))
   ·exact (mS .here rfl (mS .here rfl mN))
   ·first|omega|(dsimp only; omega)
   ·exact hGl1
   refine ⟨?_,?_,?_⟩
   ·(try dsimp only)<;>(first|omega|rfl|assumption|(simp; done))
   ·(try dsimp only)<;>(exact aBG ef (by rw [uU,dY,ek2,if_pos (by omega)]))
   (try dsimp only)<;>(exact aBG ef2 (by rw [uU,dY,ek2,if_pos (by omega)]))
  have c5k:=c5
  try simp only [aC,aD] at c5
  refine .g (aW (((k+1):Nat):Int) rfl rfl rfl rfl ?_)
  refine .g (aZ (k+1,bA f k 54#8,bA f2 k 92#8) ?_ ?_ ?_ ?_ ?_)
  ·exact (aO rfl (aA rfl (aA rfl (aA rfl eZ))))
  ·exact (mS .here rfl (mS .here rfl mN))
  ·first|omega|(dsimp only; omega)
  ·exact hGl1
  refine ⟨?_,?_,?_⟩
  ·(try dsimp only)<;>(first|omega|rfl|assumption|(simp; done))
  ·(try dsimp only)<;>(exact wM ef (by rw [dY,ek2,if_neg (by omega)]))
  (try dsimp only)<;>(exact wM ef2 (by rw [dY,ek2,if_neg (by omega)]))
 have c4k:=c4
 try simp only [aC,aD] at c4
 refine .exit (.xcode (.xlp (.xblk (.code (.seq (aFH aV rfl ?_))))))
 refine WoT.n2 0 1 (by kernel_rfl) ?_ ?_
 ·refine lB rfl gI rfl aF ?_
  refine .nil (WoT.n2 1 2 (by kernel_rfl) ?_ ?_)
  ·refine lB rfl gI rfl .here ?_
   refine .nil (WoT.n1 2 (by kernel_rfl) ?_)
   refine sW rfl rfl rfl rfl jL aF ?_
   refine .nil (WoT.n1 3 (by kernel_rfl) ?_)
   refine sW rfl rfl rfl rfl jL aF ?_
   refine .nil (WoT.last (by kernel_rfl) ?_)
   refine .code (.ret (aP Tryz.results147 (.cell rfl (fun w hw=>bW gI (RdN.own aF) ((by first|exact qE|exact qL|rfl)) hw) (.cell rfl (fun w hw=>bW gI (RdN.own .here) ((by first|exact qE|exact qL|rfl)) hw) .nil)) ?_))
   obtain rfl:k=64:=by omega
   exact ⟨rfl,by rw [ef,ef2,iJ (fun i hi=>jU (dY key 54#8) hi),iJ (fun i hi=>jU (dY key 92#8) hi)]; rfl⟩
  refine sW rfl rfl rfl rfl jL aF ?_
  refine .nil (WoT.n1 1 (by kernel_rfl) ?_)
  refine lB rfl gI rfl aF ?_
  refine .nil (WoT.n1 3 (by kernel_rfl) ?_)
  refine sW rfl rfl rfl rfl jL aF ?_
  refine .nil (WoT.last (by kernel_rfl) ?_)
  refine .code (.ret (aP Tryz.results147 (.cell rfl (fun w hw=>bW gI (RdN.own aF) ((by first|exact qE|exact qL|rfl)) hw) (.cell rfl (fun w hw=>bW gI (RdN.own .here) ((by first|exact qE|exact qL|rfl)) hw) .nil)) ?_))
  obtain rfl:k=64:=by omega
  exact ⟨rfl,by rw [ef,ef2,iJ (fun i hi=>jU (dY key 54#8) hi),iJ (fun i hi=>jU (dY key 92#8) hi)]; rfl⟩
 refine lB rfl gI rfl .here ?_
 refine .nil (WoT.n1 0 (by kernel_rfl) ?_)
 refine lB rfl gI rfl aF ?_
 refine .nil (WoT.n1 2 (by kernel_rfl) ?_)
 refine sW rfl rfl rfl rfl jL aF ?_
 refine .nil (WoT.n1 3 (by kernel_rfl) ?_)
 refine sW rfl rfl rfl rfl jL aF ?_
 refine .nil (WoT.last (by kernel_rfl) ?_)
 refine .code (.ret (aP Tryz.results147 (.cell rfl (fun w hw=>bW gI (RdN.own aF) ((by first|exact qE|exact qL|rfl)) hw) (.cell rfl (fun w hw=>bW gI (RdN.own .here) ((by first|exact qE|exact qL|rfl)) hw) .nil)) ?_))
 obtain rfl:k=64:=by omega
 exact ⟨rfl,by rw [ef,ef2,iJ (fun i hi=>jU (dY key 54#8) hi),iJ (fun i hi=>jU (dY key 92#8) hi)]; rfl⟩
theorem aTC:aQ Tryz.prog 147=true:=by kernel_rfl
theorem aTD:aQ Tryz.prog 148=true:=by kernel_rfl
theorem aKb:aQ Tryz.prog 149=true:=by kernel_rfl
theorem aK3:iS Tryz.prog 164=some (ba 16 (fun _=>0#8)):=by kernel_rfl
theorem aEm:cK Tryz.prog 65 1=some 32:=by kernel_rfl
theorem aBx:iG Tryz.prog 125=some (12,5,1):=by kernel_rfl
theorem tK:aQ Tryz.prog 35=true:=by kernel_rfl
theorem aEr:aQ Tryz.prog 135=true:=by kernel_rfl
theorem aEZ:iG Tryz.prog 164=some (16,5,1):=by kernel_rfl
theorem aEX:dT Tryz.prog 164=some (some 16):=by kernel_rfl
theorem aK0:dG Tryz.prog 164=some 16:=by kernel_rfl
theorem aB2:cK Tryz.prog 65 0=some 0:=by kernel_rfl
theorem qP:dT Tryz.prog 125=some (some 12):=by kernel_rfl
theorem aKR:aQ Tryz.prog 112=true:=by kernel_rfl
theorem pM:dT Tryz.prog 65=some (some 64):=by kernel_rfl
theorem aKS:aQ Tryz.prog 113=true:=by kernel_rfl
theorem aSW:tV Tryz.prog 164 16=true:=by kernel_rfl
theorem aDJ (key:List Y) (hk:Sh) (ps:List (Sh×List Y)) (h:Sh) (G:PM) (hsk:SlR G 1 aL hk key) (hs:SlP G h ps) (hK:RdNP G 1 0 (wa 64 kW)) (hlk:key.length≤140737488351232) (hl:(cN ps).length≤1000000000000000) (hn:ps.length≤1000):Ct Tryz.prog 135 ([hk.val key.length,h.val ps.length]:List Value).toArray G [] (fun _ μ' u=>μ'=[]∧u=.agg (ba 32 (pB key (cN ps))).toArray):=by
 refine Ct.of Tryz.func135 rfl Tryz.ntmps135 rfl fun w0 hs0=>?_
 refine .seq (aM rfl rfl ?_)
 refine al rfl fT ?_; intro b4
 refine .g (kV rfl aTC (aB rfl aE) (aOn key hk _ hsk hK hlk) ?_)
 refine .p (eX rfl rfl rfl (eX rfl rfl rfl ?_))
 refine al rfl rA ?_; intro b5
 refine al rfl rA ?_; intro b6
 refine sW rfl rfl rfl rfl jL aF ?_
 refine sW rfl rfl rfl rfl jL aF ?_
 refine .nil (.code (.seq ?_))
 refine fS aF (by intro b hb; cases hb) ?_; intro Gfb5 hleb5 hbb5
 have hs:=hs.mono hleb5
 have hK:=hK.mono hleb5
 refine fS .here (by intro b hb; cases hb) ?_; intro Gfb6 hleb6 hbb6
 have hs:=hs.mono hleb6
 have hK:=hK.mono hleb6
 have hbb5:=hbb5.mono hleb6
 refine .g (kc rfl aTD aE (aLB _) ?_)
 rintro _ G16 μ16 hG16 ⟨b16,rfl,rfl⟩
 have hs:=hs.mono hG16
 have hK:=hK.mono hG16
 have hbb5:=hbb5.mono hG16
 have hbb6:=hbb6.mono hG16
 refine aS rfl rfl (.nc (.seq (eH rfl rfl (mV rfl rfl ?_))))
 refine kA rfl .no jE (.u rfl) hbb5 (by first|exact iY|exact gE|exact iX) ?_; intro h18 L18 eL18 lL18 hs18
 refine ka rfl (.inr rfl) aKb (aB rfl (aB rfl aE)) (rM .here .here) (aFI [] L18 _ _ _ _ hs18 hK (by simp; omega)) ?_
 rintro _ G19 μ19 hG19 ⟨vq0,rfl,rfl⟩
 have hs:=hs.mono hG19
 have hK:=hK.mono hG19
 have hbb6:=hbb6.mono hG19
 refine .g (lE rfl xP rfl (mV rfl rfl (.nc (.block ?_))))
 refine bE (α:=Nat×Value) (fun gh=>[(22,true,.int .i64 (gh.1:Int))]) (fun gh=>[.blk b16 (cl (iP (L18++cN (ps.take gh.1)) gh.2) 168),rB gh.2 5 (eT (L18++cN (ps.take gh.1)))])
  (fun gh Gl=>(gh.1≤ps.length)) (fun gh=>ps.length-gh.1) (0,vq0) [(4,true,_),(6,true,_),(7,true,_),(20,true,_),(21,true,_)] [_]
  (aO rfl (aA rfl (aA rfl (aA rfl (aA rfl (aA rfl eZ))))))
  (mS .here (by simp [cN]) (mS .here (by simp [cN]) (mS .here rfl mN))) ?_ ?_
 ·(try dsimp only)<;>(first|omega|rfl|assumption|(simp; done))
 intro gh N0 Gl0 hN0 hGl0 hF0
 obtain ⟨k,vq⟩:=gh; dsimp only at hF0 hN0 ⊢
 have hk:=hF0
 have hs:=hs.mono hGl0
 have hK:=hK.mono hGl0
 have hbb6:=hbb6.mono hGl0
 refine .g (cP rfl rfl rfl rfl (.g (cD rfl (fun c1=>?_) (fun c1=>?_))))
 ·have c1k:=c1
  try simp only [aC,aD] at c1
  refine .skip (.code (.seq (.block (.seq (eH rfl rfl (ih rfl .no gP (.u rfl) (.u rfl) (by omega) (by omega) (fun _=>hs.sl.nn (k:=k) (by omega)) ?_))))))
  obtain ⟨p25,ep25⟩:=dO (k:=k) (xs:=ps) (by omega)
  have hq25:=hs.get ep25
  refine lN rfl bV rfl ((hs.at (k) (by omega) ep25).rd) ?_
  refine .g (ka rfl (.inr rfl) aKb (aB rfl (aB rfl aE)) (rM .here .here) (aFI (L18++cN (ps.take k)) p25.2 _ _ _ _ hq25 hK (by have:=aCg ep25; rw [List.length_append]; omega)) ?_)
  rintro _ G28 μ28 hG28 ⟨vq',rfl,rfl⟩
  have hK:=hK.mono hG28
  have hbb6:=hbb6.mono hG28
  refine .g (aW (((k+1):Nat):Int) rfl rfl rfl rfl ?_)
  refine .g (aZ (k+1,vq') ?_ ?_ ?_ ?_ ?_)
  ·exact (aO rfl (aA rfl (aA rfl (aA rfl (aA rfl (aA rfl eZ))))))
  ·exact (mS .here (by rw [vQ ep25,List.append_assoc]) (mS .here (by rw [vQ ep25,List.append_assoc]) (mS .here rfl mN)))
  ·first|omega|(dsimp only; omega)
  ·exact (hGl0).trans hG28
  (try dsimp only)<;>(first|omega|rfl|assumption|(simp; done))
 have c1k:=c1
 try simp only [aC,aD] at c1
 refine .exit (.xcode (.xlp (.xblk (.code (.seq ?_)))))
 obtain rfl:k=ps.length:=by omega
 rw [List.take_length]
 refine .g (ka rfl (.inr rfl) aKT (aB rfl aE) (rM .here .here) (aFC (L18++cN ps) _ _ _ hK (by rw [List.length_append]; omega)) ?_)
 rintro _ G31 μ31 hG31 ⟨rfl,rfl⟩
 have hK:=hK.mono hG31
 have hbb6:=hbb6.mono hG31
 refine al rfl fT ?_; intro b10
 refine sW rfl rfl rfl rfl fH .here ?_
 refine .nil (.code (.seq ?_))
 refine fS .here (by intro b hb; cases hb) ?_; intro Gfb10 hleb10 hbb10
 have hK:=hK.mono hleb10
 have hbb6:=hbb6.mono hleb10
 refine bG (mc:=⟨false,false⟩) [0,1,2,3,4] aV (by kernel_rfl) ?_
 refine kA rfl .no jE (.u rfl) hbb6 (by first|exact iY|exact gE|exact iX) ?_; intro h32 L32 eL32 lL32 hs32
 refine kA rfl .no gB (.u rfl) hbb10 (by first|exact iY|exact gE|exact iX) ?_; intro h33 L33 eL33 lL33 hs33
 refine Go.Tan.bN rfl gP jM (Evp.cons (.u rfl) (Evp.cons (.u rfl) Evp.nil)) rfl (by decide) (by simp [Value.oneCell',Sh.val]) ?_; intro b34
 refine kp rfl .no aAS (aB rfl aE) (Gp.add .here Gp.nil) (fun _ hle hq=>aRJ hle hs32 hs33 hK (by omega)) ?_
 refine sW rfl rfl rfl rfl fH bM ?_
 refine .nil (.code (.ret (aP Tryz.results135 (.cell rfl (fun w hw=>bW cH (RdN.own .here) ((by first|exact qE|exact qL|rfl)) hw) .nil) ?_)))
 exact ⟨rfl,by rw [eL32,eL33,eL18]; rfl⟩
theorem aOA {G:PM} {b T:Nat} {hk h1 h2 h3 h4:Sh} {key L1 L2 L3 L4:List Y} (hle:PM.le G (G.add b (cl [h1.val L1.length,h2.val L2.length,h3.val L3.length,h4.val L4.length] T))) (hsk:SlR G 1 aL hk key) (hs:SlR G 1 aL h1 L1) (hs2:SlR G 1 aL h2 L2) (hs3:SlR G 1 aL h3 L3) (hs4:SlR G 1 aL h4 L4) (hK:RdNP G 1 0 (wa 64 kW)) (hlk:key.length≤140737488351232) (hl:L1.length+L2.length+L3.length+L4.length≤1000000000000000) :
  Ct Tryz.prog 135 ([hk.val key.length,.slice (some ⟨b,0,none⟩) 4 4]:List Value).toArray (G.add b (cl [h1.val L1.length,h2.val L2.length,h3.val L3.length,h4.val L4.length] T)) [] (fun _ μ' u=>μ'=[]∧u=.agg (ba 32 (pB key (L1++L2++L3++L4))).toArray):=by
 have h:=aDJ key hk [(h1,L1),(h2,L2),(h3,L3),(h4,L4)] ⟨some ⟨b,0,none⟩,4⟩ _ (hsk.mono hle) (SlP.four hle hs hs2 hs3 hs4) (hK.mono hle) hlk (by simp [cN]; omega) (by simp)
 rw [show cN [(h1,L1),(h2,L2),(h3,L3),(h4,L4)]=L1++L2++L3++L4 by simp [cN]] at h
 exact h
theorem aFE (enc mac nonce:Nat→Y) (ad:List Y) (ha:Sh) (xs:List Y) (hx:Sh) (G:PM) (hsa:SlR G 1 aL ha ad) (hsx:SlR G 1 aL hx xs) (hK:RdNP G 1 0 (wa 64 kW)) (hla:ad.length≤140737488351232) (hl:xs.length≤140737488355328):Ct Tryz.prog 113 ([.agg (ba 32 enc++ba 32 mac).toArray,.agg (ba 12 nonce).toArray,ha.val ad.length,hx.val xs.length]:List Value).toArray G [] (fun _ μ' u=>μ'=[]∧u=.agg (ba 16 (sZ mac nonce ad xs)).toArray):=by
 refine Ct.of Tryz.func113 rfl Tryz.ntmps113 rfl fun w0 hs0=>?_
 refine .seq (eH rfl rfl ?_)
 refine bX rfl rfl rfl ?_; intro b4
 refine bX rfl rfl rfl ?_; intro b5
 refine al rfl aK3 ?_; intro b8
 refine .nil (.code (.seq ?_))
 refine fS aT (by intro b hb; cases hb) ?_; intro Gfb4 hleb4 hbb4
 have hsa:=hsa.mono hleb4
 have hsx:=hsx.mono hleb4
 have hK:=hK.mono hleb4
 refine fS aF (by intro b hb; cases hb) ?_; intro Gfb5 hleb5 hbb5
 have hsa:=hsa.mono hleb5
 have hsx:=hsx.mono hleb5
 have hK:=hK.mono hleb5
 have hbb4:=hbb4.mono hleb5
 refine bG (mc:=⟨false,false⟩) [0,1,2,3,4,6,7,8,5,9,10,11,12] aV (by kernel_rfl) ?_
 refine fA rfl aEm rfl ?_
 refine kA rfl .no tG (.u rfl) hbb4 (by first|exact iY|exact gE|exact iX) ?_; intro h11 L11 eL11 lL11 hs11
 refine .p (lE rfl bK rfl (ci rfl .no rfl cW (.u rfl) ?_))
 refine mV rfl rfl ?_
 refine kA rfl .no aBx (.u rfl) hbb5 (by first|exact iY|exact gE|exact iX) ?_; intro h17 L17 eL17 lL17 hs17
 refine .p (kc rfl tK (aB rfl (aB rfl (aB rfl aE))) (Ct.frzB (rV [] ⟨none,0⟩ _ 8 _ SlR.nul (by simp) (by decide))) ?_)
 rintro _ G15 μ15 hG15 ⟨h15,L15,eL15,rfl,rfl,hs15⟩
 have hsa:=hsa.mono hG15
 have hsx:=hsx.mono hG15
 have hK:=hK.mono hG15
 have hs11:=hs11.mono hG15
 have hs17:=hs17.mono hG15
 refine Go.Tan.bN rfl gP jM (Evp.cons (.u rfl) (Evp.cons (.u rfl) (Evp.cons (.u rfl) (Evp.cons (.u rfl) Evp.nil)))) rfl (by decide) (by simp [Value.oneCell',Sh.val]) ?_; intro b19
 have lL15:L15.length=8:=by rw [eL15,List.nil_append]; exact gT _ 8
 refine kp rfl .no aEr (aB rfl (aB rfl aE)) (Gp.add .here Gp.nil) (fun _ hle hq=>aOA hle hs11 hs15 hsa hs17 hsx hK (by omega) (by omega)) ?_
 refine al rfl fT ?_; intro b9
 refine sW rfl rfl rfl rfl fH .here ?_
 refine .g (sah rfl .no gB (.u rfl) (.u rfl) (fun _=>by first|decide|omega) (fun _=>by first|decide|omega) ?_)
 refine sp rfl .no aEZ (.u rfl) (fun _=>by first|decide|omega) ?_
 refine lA rfl .no aEX (.u rfl) (fun _=>RdN.part (n:=16) (cs':=ba 16 _) .here (aCR (by decide))) (fun _=>(by first|exact qE|exact qL|rfl)) ?_
 refine sW rfl rfl rfl rfl aK0 aT ?_
 refine .nil (.code (.ret (aP Tryz.results113 (.cell rfl (fun w hw=>bW aEX (RdN.own .here) ((by first|exact qE|exact qL|rfl)) hw) .nil) ?_)))
 exact ⟨rfl,by rw [eL11,eL15,eL17]; rfl⟩
theorem aRT (enc mac nonce:Nat→Y) (ad:List Y) (ha:Sh) (xs:List Y) (v:Value) (G:PM) (hsa:SlR G 1 aL ha ad) (hK:RdNP G 1 0 (wa 64 kW)) (hla:ad.length≤140737488351232) (hl:xs.length≤140737488355328):Ct Tryz.prog 113 ([.agg (ba 32 enc++ba 32 mac).toArray,.agg (ba 12 nonce).toArray,ha.val ad.length,v]:List Value).toArray G [rB v 5 xs] (fun _ μ' u=>∃ ν,μ'=rB v 5 xs :: ν∧ν=[]∧u=.agg (ba 16 (sZ mac nonce ad xs)).toArray) :=
 xG (fun hx G2 hle hv hs=>by subst hv; exact aFE enc mac nonce ad ha xs hx G2 (hsa.mono hle) hs (hK.mono hle) hla hl)
theorem aLG (enc mac nonce:Nat→Y) (ad:List Y) (ha:Sh) (xs:List Y) (hx:Sh) (G:PM) (hsa:SlR G 1 aL ha ad) (hsx:SlR G 1 aL hx xs) (hK:RdNP G 1 0 (wa 64 kW)) (hla:ad.length≤140737488351232) (hl:xs.length≤140737488351232):Ct Tryz.prog 72 ([.agg (ba 32 enc++ba 32 mac).toArray,.agg (ba 12 nonce).toArray,ha.val ad.length,hx.val xs.length]:List Value).toArray G [] (PR 5 (fun L=>L=kN enc mac nonce ad xs)):=by
 refine Ct.of Tryz.func72 rfl Tryz.ntmps72 rfl fun w0 hs0=>?_
 have lc:=uC enc nonce 1#32 xs
 refine .seq (eH rfl rfl ?_)
 refine bX rfl rfl rfl ?_; intro b4
 refine bX rfl rfl rfl ?_; intro b5
 refine .g (fZ rfl aB2 rfl (lA rfl .no uY (.u rfl) (fun _=>RdN.part (n:=32) (cs':=ba 32 enc) aF (gE)) (fun _=>(by first|exact qE|exact qL|rfl)) ?_))
 refine lB rfl qP rfl .here ?_
 refine .p (kc rfl aKR (aB rfl (aB rfl (aB rfl (aB rfl aE)))) (iT (aET enc nonce 1#32 hx xs _ hsx hl)) ?_)
 rintro v15 G15 μ15 hG15 ⟨L15,ov15,eL15,rfl⟩
 have hsa:=hsa.mono hG15
 have hK:=hK.mono hG15
 refine aS rfl rfl (.nc (.seq (uQ rfl rfl ?_)))
 have lL15:L15.length=xs.length:=by rw [eL15,uC]
 refine lB rfl pM rfl aT ?_
 refine lB rfl qP rfl aF ?_
 refine .p (ka rfl (.inr rfl) aKS (aB rfl (aB rfl (aB rfl (aB rfl aE)))) (bQ .here) (aRT enc mac nonce ad ha L15 _ _ hsa hK hla (by rw [eL15,uC]; omega)) ?_)
 rintro _ G20 μ20 hG20 ⟨_,rfl,rfl,rfl⟩
 refine al rfl aK3 ?_; intro b10
 refine sW rfl rfl rfl rfl aK0 .here ?_
 refine .g (lY rfl .no aEZ (.u rfl) (cF rfl aH aY (.u rfl) (.u rfl) aF (Sc.arr .here) (by (try simp only [bJ,bB]); omega) ?_))
 intro v23 L23 ov23 eL23
 have lL23:L23.length=L15.length+16:=by rw [eL23,List.length_append]; first|rfl | simp [bB]
 refine aS rfl rfl (.nc (.ret (We.fin Tryz.results72 (.tmp rfl .nil) (mS .here rfl mN) ?_)))
 exact ⟨L23,by rw [eL23,eL15]; rfl,rfl⟩
theorem aFB (enc mac nonce:Nat→Y) (ad:List Y) (ha:Sh) (xs:List Y) (hx:Sh) (G:PM) (hsa:SlR G 1 aL ha ad) (hsx:SlR G 1 aL hx xs) (hK:RdNP G 1 0 (wa 64 kW)) (hla:ad.length≤140737488351232) (hl:xs.length≤140737488351248):Ct Tryz.prog 123 ([.agg (ba 32 enc++ba 32 mac).toArray,.agg (ba 12 nonce).toArray,ha.val ad.length,hx.val xs.length]:List Value).toArray G [] (fun _ μ' u=>∃ v L e,OpenR (oI enc mac nonce ad xs) L e∧μ'=[rB v 5 L]∧u=.tuple #[v,.int .i64 e]):=by
 refine Ct.of Tryz.func123 rfl Tryz.ntmps123 rfl fun w0 hs0=>?_
 refine .seq (gH rfl rfl ?_)
 refine bX rfl rfl rfl ?_; intro b4
 refine bX rfl rfl rfl ?_; intro b5
 refine .g (lE rfl bK rfl (aR rfl rfl rfl rfl ?_))
 refine .g (cP rfl rfl rfl rfl (.g (cD rfl (fun c1=>?_) (fun c1=>?_))))
 ·have c1k:=c1
  try simp only [aC,aD] at c1
  refine .seq (bD rfl rfl (aS rfl rfl (aS rfl rfl (.nc (.ret (jW 5 ?_))))))
  refine We.fin Tryz.results123 (.tmp rfl (.tmp rfl .nil)) (mS .here rfl mN) ?_
  rw [aHb (by omega)]; exact ⟨_,[],60,.inr ⟨rfl,rfl,rfl⟩,rfl,rfl⟩
 have c1k:=c1
 try simp only [aC,aD] at c1
 refine .g (kE ((xs.length-16)) rfl .no aH hsx (.u rfl) (.u rfl) (by omega) (by omega) ?_)
 intro h19 L19 eL19 lL19 hs19
 have lL19:=lL19 rfl
 refine .g (bG (mc:=⟨false,false⟩) [0,1,2,3,5,6,7,8,9,4,10] aV (by kernel_rfl) ?_)
 refine lB rfl pM rfl aF ?_
 refine lB rfl qP rfl .here ?_
 refine .p (kD ((xs.length-16)) rfl .no aH hsx (.u rfl) (.u rfl) (by omega) (by omega) ?_)
 intro h27 L27 eL27 lL27 hs27
 have lL27:=lL27 rfl
 refine spS rfl .no aEZ hs27 (.u rfl) (by omega) (by decide) ?_
 refine lA rfl .no aEX (.u rfl) (fun _=>(hs27.arr (m:=16) (by omega)).rd) (fun _=>aU _ _) ?_
 refine kV rfl aKS (aB rfl (aB rfl (aB rfl (aB rfl aE)))) (aFE enc mac nonce ad ha L19 h19 _ hsa hs19 hK hla (by omega)) ?_
 refine nqB rfl .no aSW (.u rfl) (.u rfl) ?_
 refine .g (cD rfl (fun c2=>?_) (fun c2=>?_))
 ·have c2k:=c2
  try simp only [aC,aD] at c2
  refine .seq (bD rfl rfl (aS rfl rfl (aS rfl rfl (.nc (.ret (jW 5 ?_))))))
  refine We.fin Tryz.results123 (.tmp rfl (.tmp rfl .nil)) (mS .here rfl mN) ?_
  rw [aHa (by omega) (by rw [← eL19,←eL27,←aAF L27,show L27.length=16 by omega]; exact c2)]; exact ⟨_,[],60,.inr ⟨rfl,rfl,rfl⟩,rfl,rfl⟩
 have c2k:=c2
 try simp only [aC,aD] at c2
 refine .g (fZ rfl aB2 rfl (lA rfl .no uY (.u rfl) (fun _=>RdN.part (n:=32) (cs':=ba 32 enc) aF (gE)) (fun _=>(by first|exact qE|exact qL|rfl)) ?_))
 refine lB rfl qP rfl .here ?_
 refine .p (kc rfl aKR (aB rfl (aB rfl (aB rfl (aB rfl aE)))) (iT (aET enc nonce 1#32 h19 L19 _ hs19 (by omega))) ?_)
 rintro v35 G35 μ35 hG35 ⟨L35,ov35,eL35,rfl⟩
 refine aS rfl rfl (aS rfl rfl (.nc (.ret (We.fin Tryz.results123 (.tmp rfl (.tmp rfl .nil)) (mS .here rfl mN) ?_))))
 rw [aDW (by omega) (by rw [← eL19,←eL27,←aAF L27,show L27.length=16 by omega]; exact c2),←eL19]; exact ⟨v35,L35,0,.inl ⟨by rw [eL35],rfl⟩,rfl,rfl⟩
theorem aEc:csT Tryz.prog 34=true:=by kernel_rfl
def zF:Nat→Y:=fun _=>0#8
end Go.Proofs.YtbdnclpopappeaaGreatDoor
