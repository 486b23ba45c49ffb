/- Lemmas and contracts of functions, joined. -/
import Derived.Test.YtoifkgkandfeiaaGreatDoorDc4
import Derived.Shelf.Strings.OnBuilder
import Derived.Shelf.Strconv.Itoa2
import Derived.Shelf.Strconv.Itoa1
set_option linter.unusedSimpArgs false
set_option linter.unusedVariables false
set_option linter.unusedSectionVars false
namespace Go.Tan
open Go.RowKit
theorem aV4 {d:List UInt8} {k:Nat} (h:k<d.length):((yb (aG d)).getD k 0)=BitVec.ofNat 8 d[k].toNat:=by
 rw [kZ]
 simp [List.getD,List.getElem?_map,h]
theorem vX {d:List UInt8} {k:Nat} (h:k<d.length):((yb (aG d)).getD k 0).toNat=d[k].toNat:=by
 rw [aV4 h,BitVec.toNat_ofNat,Nat.mod_eq_of_lt d[k].toNat_lt]
theorem aJE {s:List UInt8} (h:0<s.length):eF s=decide (((yb (aG s)).getD 0 0).toNat=45):=by
 rw [vX h]
 cases s with
 | nil=>cases h
 | cons x r =>
  unfold eF
  show decide (some x=some 45)=decide (x.toNat=45)
  refine decide_eq_decide.2 ⟨fun e=>by cases e; rfl,fun e=>by rw [← UInt8.toNat_inj.1 (e.trans (show 45=(45:UInt8).toNat from rfl))]⟩
theorem aRI {s:List UInt8} (h:¬ 0<s.length):eF s=false:=by
 cases s with
 | nil=>rfl
 | cons x r=>exact absurd (Nat.succ_pos _) h
theorem aK5 {d:List UInt8} {k:Nat} (h:k<d.length):iE (d.take (k+1))=iE (d.take k)*10+(d[k].toNat-48):=by
 have e:d.take (k+1)=d.take k++[d[k]]:=by rw [List.take_add_one,List.getElem?_eq_getElem h]; rfl
 rw [e]
 unfold iE
 rw [List.foldl_append]; rfl
theorem aO3 {d:List UInt8} {k:Nat} (h:k<d.length) (hb:((yb (aG d)).getD k 0).toNat<48∨57<((yb (aG d)).getD k 0).toNat):d.all fC=false:=by
 rw [vX h] at hb
 rw [List.all_eq_false]
 refine ⟨d[k],List.getElem_mem h,?_⟩
 unfold fC
 simp only [Bool.and_eq_true,decide_eq_true_eq]
 omega
theorem aSL {s:List UInt8} (h:9<(bD s).length):iX s=false:=by
 unfold iX
 rw [decide_eq_false (show ¬ (bD s).length≤9 by omega)]
 simp
theorem aVQ {d:List UInt8} {k:Nat} (hk:k≤d.length) (ha:(d.take k).all fC=true):iE (d.take k)<10^k:=aCm k _ (by rw [List.length_take]; omega) ha
theorem aBZ (s:List UInt8):(bD s).length=if eF s=true then s.length-1 else s.length:=by
 unfold bD
 split
 ·rw [List.length_tail]
 ·rfl
theorem aJF {s:List UInt8} (h:eF s=true):0<s.length:=by
 cases s with
 | nil=>cases h
 | cons x r=>exact Nat.succ_pos _
def aFn (s:List UInt8):Prop:=(bD s).length=0∨(((yb (aG (bD s))).getD 0 0).toNat=48∧(1<(bD s).length∨1<s.length))
theorem aJh {s:List UInt8} (ha:(bD s).all fC=true) (hl:(bD s).length≤9):iX s=true↔¬ aFn s:=by
 unfold iX aFn
 rw [ha,decide_eq_true hl]
 cases e:bD s with
 | nil=>simp
 | cons x r =>
  rw [vX (d:=x :: r) (k:=0) (Nat.succ_pos _)]
  show (true && !decide (x :: r=[])&&true && !(decide (some x=some 48) && !decide (s=[48])))=true↔¬ ((x :: r).length=0∨(x.toNat=48∧(1<(x :: r).length∨1<s.length)))
  have hx:(x.toNat=48)↔x=48:=⟨fun h=>UInt8.toNat_inj.1 h,fun h=>by rw [h]; rfl⟩
  have hs:x=48→(s=[48]↔¬ (1<(x :: r).length∨1<s.length)):=fun h48=>by
   subst h48
   constructor
   ·rintro rfl
    have:bD [48]=[48]:=rfl
    rw [this] at e
    cases e
    simp
   ·intro hn
    have h1:¬ 1<((48:UInt8) :: r).length:=fun h=>hn (.inl h)
    have h2:¬ 1<s.length:=fun h=>hn (.inr h)
    have hr:r=[]:=by
     cases r with
     | nil=>rfl
     | cons y t=>exact absurd (by simp) h1
    subst hr
    have h3:=aBZ s
    rw [e] at h3
    by_cases hm:eF s=true
    ·rw [if_pos hm] at h3; simp at h3; omega
    ·have h4:bD s=s:=by unfold bD; rw [if_neg hm]
     rw [← h4,e]
  rw [hx]
  by_cases h48:x=48
  ·have h5:=hs h48
   by_cases hz:s=[48]
   ·simp [h48,hz]
    have:=h5.1 hz
    subst hz
    simp at this
    omega
   ·have h6:1<(x :: r).length∨1<s.length:=by
     apply Classical.byContradiction
     intro h
     exact hz (h5.2 h)
    simp [h48,hz]
    intro hr
    subst hr
    rcases h6 with h6 | h6
    ·simp at h6
    ·exact h6
  ·simp [h48]
theorem aVN {s:List UInt8} (h:iX s=true):dF s=(if eF s=true then -(iE (bD s):Int) else (iE (bD s):Int),true):=by
 unfold dF jJ
 rw [if_pos h]
theorem aUe {x:Y} (h:48≤x.toNat):(x-48#8).toNat=x.toNat-48:=by
 have:=x.isLt
 rw [BitVec.toNat_sub]; simp; omega
theorem aNb {s:List UInt8} (h:(0:Int)<((aG s).size:Int)∧((((yb (aG s)).getD 0 0).toNat:Nat):Int)=45):Value.string (cA ((yb (aG s)).drop 1))=Value.string (aG (bD s)):=by
 have h1:0<s.length:=by have:=h.1; rw [dJ] at this; omega
 have hm:eF s=true:=by rw [aJE h1]; exact decide_eq_true (by have:=h.2; omega)
 rw [vE]
 unfold bD
 rw [if_pos hm,List.drop_one]
theorem aNa {s:List UInt8} (h:((aG s).size:Int)≤0∨¬ ((((yb (aG s)).getD 0 0).toNat:Nat):Int)=45):Value.string (aG s)=Value.string (aG (bD s)):=by
 have hm:eF s=false:=by
  by_cases h1:0<s.length
  ·rw [aJE h1]
   refine decide_eq_false fun e=>?_
   rcases h with h | h
   ·rw [dJ] at h; omega
   exact h (by omega)
  exact aRI h1
 unfold bD
 rw [if_neg (by rw [hm]; decide)]
theorem aO2 {d:List UInt8} {k:Nat} (h:k<d.length) (hc:((48:Int)≤((((yb (aG d)).getD k 0).toNat:Nat):Int)∧((((yb (aG d)).getD k 0).toNat:Nat):Int)≤57)∧(k:Int)<9):fC d[k]=true∧48≤d[k].toNat∧d[k].toNat≤57∧((yb (aG d)).getD k 0-48#8).toNat=d[k].toNat-48:=by
 have h0:=vX h
 have h1:48≤d[k].toNat:=by have:=hc.1.1; omega
 have h2:d[k].toNat≤57:=by have:=hc.1.2; omega
 refine ⟨by unfold fC; rw [decide_eq_true h1,decide_eq_true h2]; rfl,h1,h2,?_⟩
 rw [aUe (by omega),h0]
theorem aVO {d:List UInt8} {k:Nat} (h9:k≤9) (hk:k≤d.length) (ha:(d.take k).all fC=true):iE (d.take k)<1000000000:=by
 have:=aVQ hk ha
 have h2:(10:Nat)^k≤10^9:=Nat.pow_le_pow_right (by decide) h9
 omega
theorem aO5 {s:List UInt8} {k:Nat} (hk:k<(bD s).length) (hc:(((((yb (aG (bD s))).getD k 0).toNat:Nat):Int)<48∨(57:Int)<((((yb (aG (bD s))).getD k 0).toNat:Nat):Int))∨(9:Int)≤k):iX s=false:=by
 rcases hc with hc | hc
 ·exact aJf (aO3 hk (by omega))
 ·exact aSL (by omega)
theorem aSM {s:List UInt8} {k:Nat} (hk:(bD s).length≤k) (h9:k≤9) (ha:((bD s).take k).all fC=true) (hc:((aG (bD s)).size:Int)=0∨(((((yb (aG (bD s))).getD 0 0).toNat:Nat):Int)=48∧((1:Int)<((aG (bD s)).size:Int)∨(1:Int)<((aG s).size:Int)))):iX s=false:=by
 rw [List.take_of_length_le hk] at ha
 cases e:iX s with
 | false=>rfl
 | true =>
  refine absurd ?_ ((aJh ha (by omega)).1 e)
  unfold aFn
  rw [dJ,dJ] at hc
  rcases hc with hc | ⟨hc,hd⟩
  ·left; omega
  right
  refine ⟨by omega,?_⟩
  rcases hd with hd | hd
  ·left; omega
  right; omega
theorem aK6 {s:List UInt8} {k:Nat} (hk:(bD s).length≤k) (h9:k≤9) (ha:((bD s).take k).all fC=true) (hc:¬ ((aG (bD s)).size:Int)=0∧(¬ ((((yb (aG (bD s))).getD 0 0).toNat:Nat):Int)=48∨(((aG (bD s)).size:Int)≤1∧((aG s).size:Int)≤1))):dF s=(if eF s=true then -(iE ((bD s).take k):Int) else (iE ((bD s).take k):Int),true):=by
 rw [List.take_of_length_le hk] at ha ⊢
 refine aVN ((aJh ha (by omega)).2 fun hz=>?_)
 rw [dJ,dJ] at hc
 rcases hz with hz | ⟨hz,hy⟩
 ·exact hc.1 (by omega)
 rcases hc.2 with h | ⟨h1,h2⟩
 ·exact h (by omega)
 rcases hy with hy | hy<;>omega
theorem aRK {s:List UInt8} (h:((aG (bD s)).size:Int)<((aG s).size:Int)):eF s=true:=by
 have h1:=aBZ s
 rw [dJ,dJ] at h
 cases hm:eF s with
 | true=>rfl
 | false=>rw [hm,if_neg (by decide)] at h1; omega
theorem aRJ {s:List UInt8} (h:((aG s).size:Int)≤((aG (bD s)).size:Int)):¬ eF s=true:=fun hm=>by
 have h1:=aBZ s
 have h2:=aJF hm
 rw [dJ,dJ] at h
 rw [if_pos hm] at h1; omega
theorem aS4 {l:List UInt8} {k:Nat} (h:k+3≤l.length):(l.take (k+3)).drop k=[l[k]'(by omega),l[k+1]'(by omega),l[k+2]'(by omega)]:=by
 rw [List.drop_take,List.drop_eq_getElem_cons (i:=k) (by omega),List.drop_eq_getElem_cons (i:=k+1) (by omega),List.drop_eq_getElem_cons (i:=k+2) (by omega),show k+3-k=3 from by omega]
 rfl
theorem aFe {l:List UInt8} {j:Nat} (h:j<l.length):(aG l).get! j=l[j]:=by
 show l.toArray[j]! = _
 rw [getElem!_pos l.toArray j (by simpa using h)]; simp
theorem yP {a:UInt8} {m:Nat} (hm:m<256):a=UInt8.ofNat m↔a.toNat=m:=by
 constructor
 ·rintro rfl; simp; omega
 ·intro h; apply UInt8.toNat_inj.1; rw [h]; simp; omega
theorem aHV {l:List UInt8} {k:Nat} (hk:k<(aG l).size):((decide ((((Utf8.decode (aG l) k).1:Nat):Int)<32)||((((Utf8.decode (aG l) k).1:Nat):Int) == 127))||(((((Utf8.decode (aG l) k).1:Nat):Int) == 65533)&&(decide (((aG l).size:Int)<((k+3:Nat):Int)) || !((cA (((yb (aG l)).take (k+3)).drop k)).toList == (⟨#[239,191,189]⟩ : ByteArray).toList))))=uB (aG l) k:=by
 have e1:cA (((yb (aG l)).take (k+3)).drop k)=aG ((l.take (k+3)).drop k):=by rw [kZ,vC,List.map_drop,List.map_take]
 have e2:((aG ((l.take (k+3)).drop k)).toList == (aG [239,191,189]).toList)=decide ((l.take (k+3)).drop k=[239,191,189]):=fD _ _
 have e3:((cA (((yb (aG l)).take (k+3)).drop k)).toList == (⟨#[239,191,189]⟩ : ByteArray).toList)=decide ((l.take (k+3)).drop k=[239,191,189]):=by rw [e1]; exact e2
 rw [e3,dJ]
 have h4:(Utf8.decode (aG l) k).1=65533→(decide ((l.length:Int)<((k+3:Nat):Int)) || !decide ((l.take (k+3)).drop k=[239,191,189]))=decide ((Utf8.decode (aG l) k).2<3):=fun hr=>by
  have h5:=aTX (R:=65533) rfl hr
  rw [dJ] at h5
  rw [Bool.eq_iff_iff,decide_eq_true_eq,h5]
  by_cases hl:k+3≤l.length
  ·rw [aS4 hl,decide_eq_false (show ¬ ((l.length:Int)<((k+3:Nat):Int)) by omega),aFe (by omega),aFe (by omega),aFe (by omega)]
   have h6:([l[k]'(by omega),l[k+1]'(by omega),l[k+2]'(by omega)]=[239,191,189])↔(k+2<l.length∧(l[k]'(by omega)).toNat=239∧(l[k+1]'(by omega)).toNat=191∧(l[k+2]'(by omega)).toNat=189):=by
    have q1:=yP (a:=l[k]'(by omega)) (m:=239) (by decide)
    have q2:=yP (a:=l[k+1]'(by omega)) (m:=191) (by decide)
    have q3:=yP (a:=l[k+2]'(by omega)) (m:=189) (by decide)
    simp only [List.cons.injEq,and_true]
    exact ⟨fun ⟨a,b,c⟩=>⟨by omega,q1.1 a,q2.1 b,q3.1 c⟩,fun ⟨_,a,b,c⟩=>⟨q1.2 a,q2.2 b,q3.2 c⟩⟩
   rw [Bool.false_or,Bool.not_eq_true',decide_eq_false_iff_not,h6]
  ·rw [decide_eq_true (show ((l.length:Int)<((k+3:Nat):Int)) by omega)]
   simp only [Bool.true_or,true_iff]
   exact fun h=>by omega
 unfold uB
 generalize (Utf8.decode (aG l) k).2=b at h4 ⊢
 generalize (Utf8.decode (aG l) k).1=a at h4 ⊢
 have g1:decide (((a:Nat):Int)<32)=decide (a<32):=decide_eq_decide.2 (by omega)
 have g2:(((a:Nat):Int) == 127)=decide (a=127):=by
  rw [Bool.eq_iff_iff]; simp only [beq_iff_eq,decide_eq_true_eq]; omega
 have g3:(((a:Nat):Int) == 65533)=decide (a=65533):=by
  rw [Bool.eq_iff_iff]; simp only [beq_iff_eq,decide_eq_true_eq]; omega
 rw [g1,g2,g3]
 by_cases ha:a=65533
 ·rw [h4 ha]
 ·rw [decide_eq_false ha,Bool.false_and,Bool.false_and]
theorem aKc {s:List UInt8} {i:Nat} (h:i<s.length):(((((yb (aG s)).getD i 0).toNat:Nat):Int) == 32)=decide (s[i]=32):=by
 rw [vX h,Bool.eq_iff_iff]
 simp only [beq_iff_eq,decide_eq_true_eq]
 have:=yP (a:=s[i]) (m:=32) (by decide)
 constructor
 ·intro h2; exact this.2 (by omega)
 ·intro h2; have:=this.1 h2; omega
theorem aVs {s:List UInt8} {f i:Nat} (hi:i≤s.length) (hf:f≤i) (h:(((i:Int) == ((aG s).size:Int))||(((((yb (aG s)).getD i 0).toNat:Nat):Int) == 32))=true) (hn:∀ x∈gK s f i,x≠32):oS s f=(f,gK s f i) :: oS s (i+1):=by
 by_cases hl:i=s.length
 ·subst hl; exact aVt hf hn
 ·have hi2:i<s.length:=by omega
  rw [aKc hi2,dJ,beq_eq_false_iff_ne.2 (by omega),Bool.false_or,decide_eq_true_eq] at h
  exact aVu hi2 hf (by rw [List.getElem?_eq_getElem hi2,h]) hn
theorem aJ4 {s:List UInt8} {i:Nat} (hi:i≤s.length) (h:(((i:Int) == ((aG s).size:Int))||(((((yb (aG s)).getD i 0).toNat:Nat):Int) == 32))=false):i<s.length:=by
 rw [dJ,Bool.or_eq_false_iff] at h
 have:=beq_eq_false_iff_ne.1 h.1
 omega
theorem aS7 {s:List UInt8} {f i:Nat} (hi:i≤s.length) (hf:f≤i) (h:(((i:Int) == ((aG s).size:Int))||(((((yb (aG s)).getD i 0).toNat:Nat):Int) == 32))=false) (hn:∀ x∈gK s f i,x≠32):∀ x∈gK s f (i+1),x≠32:=by
 have hl:=aJ4 hi h
 rw [aKc hl,Bool.or_eq_false_iff] at h
 exact aS8 hf (List.getElem?_eq_getElem hl) (of_decide_eq_false h.2) hn
theorem aS6 {s:List UInt8} {f i:Nat} (hi:i≤s.length) (h:(((i:Int) == ((aG s).size:Int))||(((((yb (aG s)).getD i 0).toNat:Nat):Int) == 32))=false) (h9:i+1=s.length+1):f=i+1:=by
 have:=aJ4 hi h; omega
theorem aV2 (s:List UInt8) (f i:Nat):gP (f,gK s f i)=cA (((yb (aG s)).take i).drop f):=by
 unfold gP gK
 rw [kZ,vC]
 rw [List.map_take,List.map_drop,List.drop_take]
theorem aJS {s:List UInt8} (h:((aG s).toList == (⟨#[]⟩ : ByteArray).toList)=true):s=[]:=by
 have h3:((aG s).toList == (aG []).toList)=true:=h
 rw [fD] at h3; exact of_decide_eq_true h3
theorem aJR {s:List UInt8} (h:((aG s).toList == (⟨#[]⟩ : ByteArray).toList)=false):¬ s=[]:=by
 have h3:((aG s).toList == (aG []).toList)=false:=h
 rw [fD] at h3; exact of_decide_eq_false h3
theorem aVv {s:List UInt8} {f:Nat} {acc:List (Nat×List UInt8)} (h0:¬ s=[]) (hw:lY 0 s=acc++oS s f) (hf:s.length<f):gE s=acc:=by
 unfold gE
 rw [if_neg h0,hw]
 unfold oS
 rw [if_neg (by omega),List.append_nil]
theorem aU6 {w:List UInt8} (h:((aG w).toList == (⟨#[46]⟩ : ByteArray).toList)=true) (l:Ln):aAs w l=.ok ([],l):=by
 have h3:((aG w).toList == (aG [46]).toList)=true:=h
 rw [fD] at h3; unfold aAs; rw [if_pos (of_decide_eq_true h3)]
theorem aU5 {w:List UInt8} (h:((aG w).toList == (⟨#[46]⟩ : ByteArray).toList)=false) (l:Ln):aAs w l=.ok (w,l):=by
 have h3:((aG w).toList == (aG [46]).toList)=false:=h
 rw [fD] at h3; unfold aAs; rw [if_neg (of_decide_eq_false h3)]
theorem aRv {w:List UInt8} (h:((aG w).toList == (⟨#[110,111,119]⟩ : ByteArray).toList)=true):w=[110,111,119]:=by
 have h3:((aG w).toList == (aG [110,111,119]).toList)=true:=h
 rw [fD] at h3; exact of_decide_eq_true h3
theorem aJX {w:List UInt8} (h:((aG w).toList == (⟨#[110,111,119]⟩ : ByteArray).toList)=false):¬ w=[110,111,119]:=by
 have h3:((aG w).toList == (aG [110,111,119]).toList)=false:=h
 rw [fD] at h3; exact of_decide_eq_false h3
theorem aRS (l:Ln):uN [110,111,119] l=.ok (18446744073709551615#64,l):=by unfold uN; rw [if_pos rfl]
theorem aId {s:List UInt8} {m:Nat} (hm:m<256):(decide (((aG s).size:Int) > 0)&&(((((yb (aG s)).getD 0 0).toNat:Nat):Int) == (m:Int)))=decide (s.head? = some (UInt8.ofNat m)):=by
 rw [dJ]
 cases s with
 | nil=>rfl
 | cons x r =>
  rw [vX (d:=x :: r) (k:=0) (Nat.succ_pos _),decide_eq_true (by simp),Bool.true_and,Bool.eq_iff_iff]
  simp only [beq_iff_eq,decide_eq_true_eq,List.head?_cons,Option.some.injEq,List.getElem_cons_zero]
  have:=yP (a:=x) hm
  constructor
  ·intro h; exact this.2 (by omega)
  ·intro h; have:=this.1 h; omega
theorem aIf (s:List UInt8):(decide (((aG s).size:Int) > 0)&&(((((yb (aG s)).getD 0 0).toNat:Nat):Int) == 45))=eF s:=aId (m:=45) (by decide)
theorem aIi (s:List UInt8):(decide (((aG s).size:Int) > 0)&&(((((yb (aG s)).getD 0 0).toNat:Nat):Int) == 43))=decide (s.head? = some 43):=aId (m:=43) (by decide)
theorem aSZ {s:List UInt8} (h:eF s=true) (l:Ln):pR s l=.ok (⟨0#8,cA ((yb (aG s)).drop 1),⟨#[]⟩⟩,l):=by
 unfold pR; rw [if_pos h,vE,List.drop_one]
theorem aJO {s:List UInt8} {i:Nat} (h:i<s.length):(((((yb (aG s)).getD i 0).toNat:Nat):Int) == 61)=decide (s[i]=61):=by
 rw [vX h,Bool.eq_iff_iff]
 simp only [beq_iff_eq,decide_eq_true_eq]
 have:=yP (a:=s[i]) (m:=61) (by decide)
 constructor
 ·intro h2; exact this.2 (by omega)
 ·intro h2; have:=this.1 h2; omega
theorem aPN {s:List UInt8} {i:Nat} (hi:i<s.length) (h:(((((yb (aG s)).getD i 0).toNat:Nat):Int) == 61)=false) (hn:∀ x∈s.take i,x≠61):∀ x∈s.take (i+1),x≠61:=by
 rw [aJO hi] at h
 rw [List.take_add_one,List.getElem?_eq_getElem hi]
 intro x hx
 rcases List.mem_append.1 hx with h1 | h1
 ·exact hn x h1
 ·simp at h1; subst h1; exact of_decide_eq_false h
theorem aPM {s:List UInt8} (h:s.head? = some 43):∀ x∈s.take 1,x≠61:=by
 cases s with
 | nil=>cases h
 | cons y r =>
  simp at h; subst h
  intro x hx
  simp at hx; subst hx; decide
theorem aPw {s:List UInt8} {c:UInt8} (h:s.head? = some c):1≤s.length:=by
 cases s with
 | nil=>cases h
 | cons y r=>exact Nat.succ_pos _
theorem aSc {s:List UInt8} {i:Nat} (h1:eF s=false) (h2:s.head? = some 43) (hi1:1≤i) (hi:i<s.length) (hn:∀ x∈s.take i,x≠61) (h:(((((yb (aG s)).getD i 0).toNat:Nat):Int) == 61)=true) (l:Ln):pR s l=.ok (⟨1#8,cA (((yb (aG s)).take i).drop 1),cA ((yb (aG s)).drop (i+1))⟩,l):=by
 rw [aJO hi] at h
 have he:s=s.take i++61 :: s.drop (i+1):=by
  have e1:s.drop i=61 :: s.drop (i+1):=by rw [List.drop_eq_getElem_cons hi,of_decide_eq_true h]
  rw [← e1,List.take_append_drop]
 have hc:bB 61 s=(s.take i,s.drop (i+1),true):=by
  conv=>lhs; rw [he]
  exact aD0 hn
 unfold pR
 rw [if_neg (by rw [h1]; decide),hc,if_pos]
 ·have e3:cA (((yb (aG s)).take i).drop 1)=aG ((s.take i).tail):=by rw [← List.drop_one,kZ,vC,List.map_drop,List.map_take]
  rw [e3,vE]
 refine ⟨rfl,?_⟩
 show (s.take i).head? = _
 rw [List.head?_take]
 rw [if_neg (by omega)]; exact h2
theorem aSa {s:List UInt8} {i:Nat} (h1:eF s=false) (hi:s.length≤i) (hn:∀ x∈s.take i,x≠61) (l:Ln):pR s l=.error l.last:=by
 rw [List.take_of_length_le hi] at hn
 unfold pR
 rw [if_neg (by rw [h1]; decide),aD1 hn,if_neg]
 exact fun h=>Bool.noConfusion h.1
theorem aSb {s:List UInt8} (h1:eF s=false) (h2:¬ s.head? = some 43) (l:Ln):pR s l=.error l.last:=by
 unfold pR
 rw [if_neg (by rw [h1]; decide),if_neg]
 rintro ⟨_,h⟩
 cases s with
 | nil=>cases h
 | cons x r =>
  unfold bB at h
  by_cases hx:x=61
  ·rw [if_pos hx] at h; cases h
  ·rw [if_neg hx] at h; exact h2 h
theorem aIE (l:Ln):iR l=aZ (bV l) iS:=by
 cases h:bV l with
 | error e=>exact aIG h
 | ok p=>exact aIF h
theorem aPy {r:Except Nat Ln} {W:List (Nat×List UInt8)} {n I:Nat} {B:Option Nat} {s:List UInt8} {β:Type} (h:RelS W n I B r) (h0:B=none→0<I) (hs:¬ (s=eP∨s=jW)) (A A':Ln→Except Nat β):fB r (fun l=>if s=eP∨s=jW then A l else .error l.last)=fB (.error (jR W I B)) A':=by
 have e:(fun l:Ln=>if s=eP∨s=jW then A l else .error l.last)=fun l=>.error l.last:=by funext l; rw [if_neg hs]
 rw [e,(h.fail h0).2]; rfl
theorem aPz {r:Except Nat Ln} {s:List UInt8} {β:Type} (hs:s=eP∨s=jW) (A:Ln→Except Nat β):fB r (fun l=>if s=eP∨s=jW then A l else .error l.last)=fB r A:=by
 have e:(fun l:Ln=>if s=eP∨s=jW then A l else .error l.last)=A:=by funext l; rw [if_pos hs]
 rw [e]
theorem aP0 {s:List UInt8} (h:(!((aG s).toList == (⟨#[115,121,110,99]⟩ : ByteArray).toList) && !((aG s).toList == (⟨#[108,97,122,121]⟩ : ByteArray).toList))=true):¬ (s=eP∨s=jW):=aIg (by
 simp only [Bool.and_eq_true,Bool.not_eq_true'] at h
 rw [h.1,h.2]; rfl)
theorem aP1 {s:List UInt8} (h:(!((aG s).toList == (⟨#[115,121,110,99]⟩ : ByteArray).toList) && !((aG s).toList == (⟨#[108,97,122,121]⟩ : ByteArray).toList))=false):s=eP∨s=jW:=aIh (by
 revert h
 cases ((aG s).toList == (⟨#[115,121,110,99]⟩ : ByteArray).toList)<;>cases ((aG s).toList == (⟨#[108,97,122,121]⟩ : ByteArray).toList)<;>decide)
theorem aTC {p:Nat} {c:UInt8} {l:List (Nat×List UInt8)} {m:Nat} (h:∀ q∈l,q.2.length≤m):∀ q∈aCU p c l,q.2.length≤m+1:=by
 cases l with
 | nil=>intro q hq; cases hq
 | cons x t =>
  intro q hq
  rcases List.mem_cons.1 hq with rfl | hq
  ·have:=h x (List.mem_cons_self ..)
   simp only [List.length_cons]; omega
  ·have:=h q (List.mem_cons_of_mem _ hq)
   omega
theorem aTD {p:Nat} {c:UInt8} {l:List (Nat×List UInt8)}:(aCU p c l).length=l.length:=by
 cases l with
 | nil=>rfl
 | cons x t=>rfl
theorem aLT:∀ (s:List UInt8) (p:Nat),(lY p s).length≤s.length+1
 | [],p=>Nat.le_refl _
 | c :: r,p=>by
  rw [aFl]
  have ih:=aLT r (p+1)
  split
  ·simp only [List.length_cons]; omega
  ·rw [aTD,List.length_cons]; omega
theorem aLS:∀ (s:List UInt8) (p:Nat),∀ q∈lY p s,q.2.length≤s.length
 | [],p=>by intro q hq; rw [List.mem_singleton.1 hq]; exact Nat.le_refl _
 | c :: r,p=>by
  rw [aFl]
  have ih:=aLS r (p+1)
  split
  ·intro q hq
   rcases List.mem_cons.1 hq with rfl | hq
   ·exact Nat.zero_le _
   ·have:=ih q hq; simp only [List.length_cons]; omega
  ·intro q hq
   have:=aTC ih q hq
   simp only [List.length_cons]; omega
theorem aVx (s:List UInt8):(gE s).length≤s.length+1:=by
 unfold gE; split
 ·exact Nat.zero_le _
 ·exact aLT s 0
theorem aVw (s:List UInt8):∀ q∈gE s,q.2.length≤s.length:=by
 unfold gE; split
 ·intro q hq; cases hq
 ·exact aLS s 0
theorem gY {α β:Type} {r:Except Nat (α×Ln)} {f:α→Ln→Except Nat β} {b:β} (h:aZ r f=.ok b):∃ a l,r=.ok (a,l)∧f a l=.ok b:=by
 cases r with
 | error e=>cases h
 | ok p=>exact ⟨p.1,p.2,rfl,h⟩
theorem mK {l:Ln} {e e':EvD} (h:cJ l e=.ok e'):e'=e:=by
 unfold cJ at h
 split at h
 ·cases h
 ·cases h; rfl
def zS (o:Opn):Prop:=o.user.size≤1000000∧o.value.size≤1000000
theorem aHn {c:UInt8} {s:List UInt8} (h:s.length≤1000000):(bB c s).1.tail.length≤1000000∧(bB c s).2.1.length≤1000000:=by
 have h1:=xE c s
 rw [List.length_tail]
 generalize (if (bB c s).2.2=true then 1 else 0)=z at h1
 omega
theorem aJl {l l':Ln} {o:Opn} (hf:l.fits) (h:eG l=.ok (o,l')):l'.fits∧zS o:=by
 rw [aAb] at h
 obtain ⟨s,l1,hw,h2⟩:=gY h
 obtain ⟨hf1,hs⟩:=kY hf hw
 unfold pR at h2
 split at h2
 ·cases h2
  exact ⟨hf1,by show (aG s.tail).size≤1000000; rw [dJ,List.length_tail]; omega,by show (⟨#[]⟩ : ByteArray).size≤1000000; decide⟩
 ·split at h2
  ·cases h2
   exact ⟨hf1,(aHn hs).1,(aHn hs).2⟩
  ·cases h2
theorem aJp:∀ (n:Nat) (l l':Ln) (os:List Opn),l.fits→iY n l=.ok (os,l')→∀ o∈os,zS o
 | 0,l,l',os,_,h=>by
  unfold iY at h; cases h
  intro o ho; cases ho
 | n+1,l,l',os,hf,h=>by
  unfold iY at h
  split at h
  ·cases e:eG l with
   | error x=>rw [e] at h; cases h
   | ok p =>
    obtain ⟨o,l1⟩:=p
    obtain ⟨hf1,hz⟩:=aJl hf e
    rw [e] at h
    dsimp only at h
    cases e2:iY n l1 with
    | error x=>rw [e2] at h; cases h
    | ok p2 =>
     obtain ⟨os2,l2⟩:=p2
     rw [e2] at h
     cases h
     intro o' ho
     rcases List.mem_cons.1 ho with rfl | ho
     ·exact hz
     ·exact aJp n l1 _ os2 hf1 e2 o' ho
  ·cases h
   intro o ho; cases ho
theorem aR2 {l l':Ln} {n:Int} (hf:l.fits) (h:dN l=.ok (n,l')):l'.fits:=by
 rw [aEy] at h
 obtain ⟨s,l1,hw,h2⟩:=gY h
 unfold xY at h2
 split at h2
 ·cases h2; exact (kY hf hw).1
 ·cases h2
theorem aJo:∀ (n:Nat) (l l':Ln) (os:List Opn),iY n l=.ok (os,l')→os.length≤l.rest.length
 | 0,l,l',os,h=>by
  unfold iY at h; cases h
  exact Nat.zero_le _
 | n+1,l,l',os,h=>by
  unfold iY at h
  split at h
  ·cases e:eG l with
   | error x=>rw [e] at h; cases h
   | ok p =>
    obtain ⟨o,l1⟩:=p
    have hl:=aCS e
    rw [e] at h
    dsimp only at h
    cases e2:iY n l1 with
    | error x=>rw [e2] at h; cases h
    | ok p2 =>
     obtain ⟨os2,l2⟩:=p2
     rw [e2] at h
     cases h
     have:=aJo n l1 _ os2 e2
     simp only [List.length_cons]; omega
  ·cases h
   exact Nat.zero_le _
theorem aJb:∀ (n:Nat) (l l':Ln) (os:List Int),lT n l=.ok (os,l')→os.length≤l.rest.length
 | 0,l,l',os,h=>by
  unfold lT at h; cases h
  exact Nat.zero_le _
 | n+1,l,l',os,h=>by
  unfold lT at h
  split at h
  ·cases e:dN l with
   | error x=>rw [e] at h; cases h
   | ok p =>
    obtain ⟨o,l1⟩:=p
    have hl:=aCO e
    rw [e] at h
    dsimp only at h
    cases e2:lT n l1 with
    | error x=>rw [e2] at h; cases h
    | ok p2 =>
     obtain ⟨os2,l2⟩:=p2
     rw [e2] at h
     cases h
     have:=aJb n l1 _ os2 e2
     simp only [List.length_cons]; omega
  ·cases h
   exact Nat.zero_le _
def yT (e:EvD):Prop:=(∀ o∈e.ops,zS o)∧e.ops.length≤1000001∧e.keep.length≤1000001
theorem lR {e:EvD} (h1:e.ops=[]) (h2:e.keep=[]):yT e:=⟨(fun o ho=>by rw [h1] at ho; cases ho),by rw [h1]; exact Nat.zero_le _,by rw [h2]; exact Nat.zero_le _⟩
theorem aIQ {l:Ln} (h:l.fits):l.rest.length≤1000000:=by unfold Ln.fits at h; omega
theorem aPP {l:Ln} {e:EvD} (hf:l.fits) (h:iR l=.ok e):yT e:=by
 rw [aIE] at h
 obtain ⟨w,l1,hw,h⟩:=gY h
 have hf1:=(kY hf hw).1
 by_cases c1:w=vT
 ·subst c1
  rw [aEO] at h
  obtain ⟨c,l2,h2,h⟩:=gY h
  obtain ⟨how,l3,h3,h⟩:=gY h
  have hf3:=(kY (aR2 hf1 h2) h3).1
  by_cases hw2:how=eP∨how=jW
  ·rw [if_pos hw2] at h
   obtain ⟨o,l4,h4,h⟩:=gY h
   obtain ⟨os,l5,h5,h⟩:=gY h
   obtain ⟨hf4,hz⟩:=aJl hf3 h4
   have:=mK h
   subst this
   refine ⟨?_,?_,Nat.zero_le _⟩
   ·intro o' ho
    rcases List.mem_cons.1 ho with rfl | ho
    ·exact hz
    exact aJp _ _ _ _ hf4 h5 o' ho
   have h6:=aJo _ _ _ _ h5
   have h7:=aIQ hf4
   show (o :: os).length≤1000001
   simp only [List.length_cons]; omega
  rw [if_neg hw2] at h; cases h
 by_cases c2:w=vJ
 ·subst c2
  rw [aEF] at h
  obtain ⟨_,_,_,h⟩:=gY h
  obtain ⟨_,_,_,h⟩:=gY h
  have:=mK h
  subst this; exact lR rfl rfl
 by_cases c3:w=vR
 ·subst c3
  rw [aEN] at h
  obtain ⟨_,_,_,h⟩:=gY h
  obtain ⟨_,_,_,h⟩:=gY h
  obtain ⟨_,_,_,h⟩:=gY h
  have:=mK h
  subst this; exact lR rfl rfl
 by_cases c4:w=vK
 ·subst c4
  rw [aEG] at h
  have:=mK h
  subst this; exact lR rfl rfl
 by_cases c5:w=vN
 ·subst c5
  rw [aEI] at h
  obtain ⟨_,_,_,h⟩:=gY h
  have:=mK h
  subst this; exact lR rfl rfl
 by_cases c6:w=vP
 ·subst c6
  rw [aEL] at h
  obtain ⟨_,_,_,h⟩:=gY h
  have:=mK h
  subst this; exact lR rfl rfl
 by_cases c7:w=vQ
 ·subst c7
  rw [aEM] at h
  obtain ⟨_,_,_,h⟩:=gY h
  have:=mK h
  subst this; exact lR rfl rfl
 by_cases c8:w=vH
 ·subst c8
  rw [aED] at h
  obtain ⟨_,_,_,h⟩:=gY h
  have:=mK h
  subst this; exact lR rfl rfl
 by_cases c9:w=vG
 ·subst c9
  rw [aEC] at h
  obtain ⟨ns,_,h5,h⟩:=gY h
  have:=mK h
  subst this
  have h6:=aJb _ _ _ _ h5
  have h7:=aIQ hf1
  exact ⟨fun o ho=>(by cases ho),Nat.zero_le _,show ns.length≤1000001 by omega⟩
 by_cases c10:w=vO
 ·subst c10
  rw [aEK] at h
  have:=mK h
  subst this; exact lR rfl rfl
 by_cases c11:w=vF
 ·subst c11
  rw [aEB] at h
  have:=mK h
  subst this; exact lR rfl rfl
 by_cases c12:w=vM
 ·subst c12
  rw [aEH] at h
  obtain ⟨_,_,_,h⟩:=gY h
  obtain ⟨_,_,_,h⟩:=gY h
  have:=mK h
  subst this; exact lR rfl rfl
 by_cases c13:w=vI
 ·subst c13
  rw [aEE] at h
  obtain ⟨_,_,_,h⟩:=gY h
  have:=mK h
  subst this; exact lR rfl rfl
 rw [aEJ c1 c2 c3 c4 c5 c6 c7 c8 c9 c10 c11 c12 c13] at h
 cases h
theorem PrsG.opz {s:List UInt8} {e:EvD} {i:Nat} {c:Int} (h:PrsG s e i c):yT e:=by
 rcases h with ⟨_,rfl,_⟩ | ⟨_,_,rfl,_⟩ | ⟨hl,_,h⟩
 ·exact lR rfl rfl
 ·exact lR rfl rfl
 ·rcases h with ⟨h,_⟩ | ⟨_,rfl,_⟩
  ·exact aPP (aEV hl) h
  ·exact lR rfl rfl
theorem PrsG.det {s:List UInt8} {e e':EvD} {i i':Nat} {c c':Int} (h:PrsG s e i c) (h':PrsG s e' i' c'):e'=e∧i'=i∧c'=c:=by
 unfold PrsG zT at h h'
 rcases h with ⟨h1,rfl,rfl,rfl⟩ | ⟨h1,h2,rfl,rfl⟩ | ⟨h1,h2,h3⟩
 ·rcases h' with ⟨g1,rfl,rfl,rfl⟩ | ⟨g1,g2,rfl,rfl⟩ | ⟨g1,g2,g3⟩
  ·exact ⟨rfl,rfl,rfl⟩
  ·omega
  ·omega
 ·rcases h' with ⟨g1,rfl,rfl,rfl⟩ | ⟨g1,g2,rfl,rfl⟩ | ⟨g1,g2,g3⟩
  ·omega
  ·rw [h2] at g2; cases g2; exact ⟨rfl,rfl,rfl⟩
  ·rw [h2] at g2; cases g2
 ·rcases h' with ⟨g1,rfl,rfl,rfl⟩ | ⟨g1,g2,rfl,rfl⟩ | ⟨g1,g2,g3⟩
  ·omega
  ·rw [h2] at g2; cases g2
  ·rcases h3 with ⟨h4,rfl,rfl⟩ | ⟨h4,rfl,rfl⟩
   ·rcases g3 with ⟨g4,rfl,rfl⟩ | ⟨g4,rfl,rfl⟩
    ·rw [h4] at g4; cases g4; exact ⟨rfl,rfl,rfl⟩
    ·rw [h4] at g4; cases g4
   ·rcases g3 with ⟨g4,rfl,rfl⟩ | ⟨g4,rfl,rfl⟩
    ·rw [h4] at g4; cases g4
    ·rw [h4] at g4; cases g4; exact ⟨rfl,rfl,rfl⟩
theorem aSf {o:Opn} (h:zS o):Conf [.int .u8,.str,.str] o.cells:=.cons (.u (k:=.u8) rfl o.kind) (.cons (.str (by unfold maxLen; have:=h.1; omega)) (.cons (.str (by unfold maxLen; have:=h.2; omega)) .nil))
end Go.Tan
namespace Go.Proofs.YtoifkgkandfeiaaGreatDoor
open Go.Tan Go.RowKit Go.Maps Go.Sort Go.Shelf
theorem oF:bL Tryz.prog 24=some (3,1,8):=by kernel_rfl
theorem aKA (s:List UInt8) (G:PM) (hz:s.length≤1000000):Ct Tryz.prog 117 ([.string (aG s)]:List Value).toArray G [] (fun _ μ' u=>μ'=[]∧u=.tuple #[.int .i64 (dF s).1,.bool (dF s).2]):=by
 refine Ct.of Tryz.func117 rfl Tryz.ntmps117 rfl fun w0 hs0=>?_
 have hts:(aG s).size=s.length:=rfl
 have hta:(aG (bD s)).size=(bD s).length:=rfl
 have hal:=aBZ s
 refine .g (ls rfl .no cE (.u rfl) (cP rfl rfl rfl rfl (mV rfl rfl (mv rfl (.t rfl rfl) (.u rfl) (sI (0) rfl (.t rfl rfl) cE (.s rfl) (.u rfl) (fun hc=>by omega) (fun hc=>by first|omega|(simp only [Bool.and_eq_true,decide_eq_true_eq] at hc; omega)) ?_)))))
 refine cp rfl (.t rfl rfl) (.s rfl) (.u rfl) rfl (cW rfl .no (.u rfl) (.s rfl) (.nc ?_))
 refine Wk.jn (α:=Unit) (fun _u=>[(4,true,.string (aG (bD s)))]) (fun _u=>[]) (fun _u Gl=>True) [(0,true,_)] []
  (aA rfl eZ) mN ?_ ?_
 ·refine cD rfl (fun c1=>?_) (fun c1=>?_)
  ·have c1k:=c1
   try simp only [aD,aL,aE] at c1
   refine .g (sD (1) rfl .no cE (.u rfl) (.u rfl) (by omega) (by omega) ?_)
   refine .g (aT () ?_ ?_ ?_ ?_ ?_)
   ·exact (dY rfl (aNb c1) (aA rfl eZ))
   ·exact mN
   ·exact jB _
   ·exact fun _ _ h=>h
   trivial
  have c1k:=c1
  try simp only [aD,aL,aE] at c1
  refine .skip (aT () ?_ ?_ ?_ ?_ ?_)
  ·exact (dY rfl (aNa c1) (aA rfl eZ))
  ·exact mN
  ·exact jB _
  ·exact fun _ _ h=>h
  trivial
 intro _u Gljc1 hGljc1 hFjc1
 refine .code (.seq (aP rfl rfl (aS rfl rfl (.nc (.seq (.seq (aP rfl rfl (aS rfl rfl (.nc (.block ?_))))))))))
 refine aV (α:=Nat×Nat) (fun gh=>[(5,true,.int .i64 ((gh.2:Nat):Int)),(6,true,.int .i64 ((gh.1:Nat):Int))]) (fun _=>[])
  (fun gh Gl=>(gh.1≤(bD s).length)∧(gh.1≤9)∧(((bD s).take gh.1).all fC=true)∧(gh.2=iE ((bD s).take gh.1))∧(gh.2<1000000000)) (fun gh=>(bD s).length-gh.1) (0,0) [(0,true,_),(4,true,_)] []
  (aO rfl (aO rfl (aA rfl (aA rfl eZ))))
  mN ?_ ?_
 ·refine ⟨?_,?_,?_,?_,?_⟩
  ·(try dsimp only)<;>(first|omega|rfl|assumption|(simp; done))
  ·(try dsimp only)<;>(first|omega|rfl|assumption|(simp; done))
  ·(try dsimp only)<;>(first|omega|rfl|assumption|(simp; done))
  ·(try dsimp only)<;>(first|omega|rfl|assumption|(simp; done))
  (try dsimp only)<;>(first|omega|rfl|assumption|(simp; done))
 intro gh N0 Gl0 hN0 hGl0 hF0
 obtain ⟨k,n⟩:=gh; dsimp only at hF0 hN0 ⊢
 obtain ⟨hk,hk9,hall,hn,hn9⟩:=hF0
 refine .g (ls rfl .no cE (.u rfl) (cP rfl rfl rfl rfl (.g (cD rfl (fun c2=>?_) (fun c2=>?_)))))
 ·have c2k:=c2
  try simp only [aD,aL,aE] at c2
  refine .g (sI (k) rfl .no cE (.u rfl) (.u rfl) (by omega) (fun _=>by first|omega|(simp only [Bool.and_eq_true,decide_eq_true_eq] at hc; omega)) ?_)
  refine cP rfl rfl rfl rfl (mV rfl rfl (mv rfl (.f rfl rfl) (.u rfl) (mv rfl (.f rfl rfl) (.u rfl) (sI (k) rfl (.f rfl rfl) cE (.s rfl) (.s rfl) (fun hc=>by omega) (fun hc=>by first|omega|(simp only [Bool.and_eq_true,decide_eq_true_eq] at hc; omega)) ?_))))
  refine cp rfl (.f rfl rfl) (.s rfl) (.u rfl) rfl (cF rfl .no (.u rfl) (.s rfl) (mV rfl rfl (mv rfl (.f rfl rfl) (.u rfl) (cp rfl (.f rfl rfl) (.s rfl) (.u rfl) rfl (cF rfl .no (.u rfl) (.s rfl) (.g (cD rfl (fun c3=>?_) (fun c3=>?_))))))))
  ·have c3k:=c3
   try simp only [aD,aL,aE] at c3
   refine .seq (bF rfl rfl (aS rfl rfl (aS rfl rfl (.nc (.ret (aN Tryz.results117 (.tmp rfl (.tmp rfl .nil)) ?_))))))
   refine ⟨rfl,?_⟩; rw [aCn (aO5 (by omega) c3)]; rfl
  have c3k:=c3
  try simp only [aD,aL,aE] at c3
  refine .skip (.code (rq9 rfl rfl ?_))
  have hkl:k<(bD s).length:=by rw [← hta]; omega
  obtain ⟨hdy,hd48,hd57,hsb⟩:=aO2 hkl c3
  refine .p (aW (((n*10):Nat):Int) rfl rfl rfl rfl ?_)
  refine .p (sI (k) rfl .no cE (.u rfl) (.u rfl) (by omega) (fun _=>by first|omega|(simp only [Bool.and_eq_true,decide_eq_true_eq] at hc; omega)) ?_)
  refine bw (k:=.u8) (b:=48#8) rfl .no rfl (.u rfl) (.u rfl) rfl ?_
  refine cn (k:=.u8) rfl .no aDb (by decide) (.u rfl) ?_; intro m44 em44 lm44
  have hm44:=em44.trans hsb
  refine hJ ((((n*10)+m44):Nat):Int) rfl .no (.u rfl) (.u rfl) rfl (by omega) (fun _=>eJ (by omega) (by omega)) ?_
  refine .g (aW (((k+1):Nat):Int) rfl rfl rfl rfl ?_)
  refine .g (aT (k+1,n*10+((bD s)[k].toNat-48)) ?_ ?_ ?_ ?_ ?_)
  ·exact (aO rfl (aO rfl (aA rfl (aA rfl eZ))))
  ·exact mN
  ·first|omega|(dsimp only; omega)
  ·exact hGl0
  refine ⟨?_,?_,?_,?_,?_⟩
  ·(try dsimp only)<;>(first|omega|rfl|assumption|(simp; done))
  ·(try dsimp only)<;>(first|omega|rfl|assumption|(simp; done))
  ·(try dsimp only)<;>(exact aDi (List.getElem?_eq_getElem hkl) hall hdy)
  ·(try dsimp only)<;>(rw [aK5 hkl,hn])
  (try dsimp only)<;>(rw [hn,←aK5 hkl]; exact aVO (by omega) (by omega) (aDi (List.getElem?_eq_getElem hkl) hall hdy))
 have c2k:=c2
 try simp only [aD,aL,aE] at c2
 refine .g (ls rfl .no cE (.u rfl) (cP rfl rfl rfl rfl (mV rfl rfl (mv rfl (.f rfl rfl) (.u rfl) (sI (0) rfl (.f rfl rfl) cE (.s rfl) (.u rfl) (fun hc=>by omega) (fun hc=>by have h9:=bne_iff_ne.1 hc; omega) ?_)))))
 refine cp rfl (.f rfl rfl) (.s rfl) (.u rfl) rfl (mv rfl (.f rfl rfl) (.s rfl) (mv rfl (.tc rfl rfl) (.u rfl) (ls rfl (.tc rfl rfl) cE (.s rfl) (cp rfl (.tc rfl rfl) (.s rfl) (.u rfl) rfl (mv rfl (.tc rfl rfl) (.s rfl) (mv rfl (.fc rfl rfl) (.u rfl) (ls rfl (.fc rfl rfl) cE (.s rfl) (cp rfl (.fc rfl rfl) (.s rfl) (.u rfl) rfl (cF rfl (.tc rfl rfl) (.s rfl) (.s rfl) (cW rfl (.f rfl rfl) (.s rfl) (.s rfl) (cF rfl .no (.u rfl) (.s rfl) (.g (cD rfl (fun c4=>?_) (fun c4=>?_))))))))))))))
 ·have c4k:=c4
  try simp only [aD,aL,aE] at c4
  refine .seq (bF rfl rfl (aS rfl rfl (aS rfl rfl (.nc (.ret (aN Tryz.results117 (.tmp rfl (.tmp rfl .nil)) ?_))))))
  refine ⟨rfl,?_⟩; rw [aCn (aSM (by omega) hk9 hall c4)]; rfl
 have c4k:=c4
 try simp only [aD,aL,aE] at c4
 refine .g (ls rfl .no cE (.u rfl) (.p (ls rfl .no cE (.u rfl) (cP rfl rfl rfl rfl (.g (cD rfl (fun c5=>?_) (fun c5=>?_)))))))
 ·have c5k:=c5
  try simp only [aD,aL,aE] at c5
  refine .g (ng rfl .no (.u rfl) (fun _=>eJ (by omega) (by omega)) ?_)
  refine aS rfl rfl (.nc (.seq (dQ rfl rfl (mV rfl rfl (aS rfl rfl (aS rfl rfl (.nc (.ret (aN Tryz.results117 (.tmp rfl (.tmp rfl .nil)) ?_)))))))))
  refine ⟨rfl,?_⟩; rw [aK6 (by omega) hk9 hall c4,if_pos (aRK c5),←hn]; rfl
 have c5k:=c5
 try simp only [aD,aL,aE] at c5
 refine .skip (.code (.seq (dQ rfl rfl (mV rfl rfl (aS rfl rfl (aS rfl rfl (.nc (.ret (aN Tryz.results117 (.tmp rfl (.tmp rfl .nil)) ?_)))))))))
 refine ⟨rfl,?_⟩; rw [aK6 (by omega) hk9 hall c4,if_neg (aRJ c5),←hn]; rfl
theorem aTU (s:List UInt8) (G:PM) (hz:s.length≤1000000):Ct Tryz.prog 39 ([.string (aG s)]:List Value).toArray G [] (fun _ μ' u=>μ'=[]∧u=.int .i64 (gG (jK (aG s) 0))):=by
 refine Ct.of Tryz.func39 rfl Tryz.ntmps39 rfl fun w0 hs0=>?_
 have hts:(aG s).size=s.length:=rfl
 refine .seq (aP rfl rfl (aS rfl rfl (.nc (.seq (.seq (bF rfl rfl (mV rfl rfl ?_)))))))
 refine rgT rfl cE (.u rfl) ?_; intro b6
 refine .nil (.code (.block ?_))
 refine aV (α:=Nat) (fun _=>[]) (fun k=>[.blk b6 (.stringIter (aG s) k)])
  (fun k Gl=>(jK (aG s) 0=jK (aG s) k)) (fun k=>s.length-k) 0 [(0,true,_),(6,true,_)] []
  (aA rfl (aA rfl eZ))
  (mS .here rfl mN) ?_ ?_
 ·(try dsimp only)<;>(first|omega|rfl|assumption|(simp; done))
 intro k N0 Gl0 hN0 hGl0 hF0
 try dsimp only at hF0 hN0 ⊢
 have hw:=hF0
 refine .g (aCR rfl (.u rfl) .here ?_)
 refine ex (vs:=(hZ (aG s) k).toList) rfl .no (.u rfl) (aB8 _ _) (.g (cD rfl (fun c1=>?_) (fun c1=>?_)))
 ·have c1k:=c1
  have c1:k<(aG s).size:=of_decide_eq_true c1
  refine .skip (.code (.block (.seq (dI rfl rfl ?_))))
  have hkl:k<s.length:=c1
  refine ex (vs:=(hZ (aG s) k).toList) rfl .no (.u rfl) (aEh hkl) (ex (vs:=(hZ (aG s) k).toList) rfl .no (.u rfl) (aB9 hkl) (.g (cP rfl rfl rfl rfl (mV rfl rfl (mv rfl (.f rfl rfl) (.u rfl) (cp rfl (.f rfl rfl) (.s rfl) (.u rfl) rfl (cF rfl .no (.u rfl) (.s rfl) (mV rfl rfl (mv rfl (.f rfl rfl) (.u rfl) (cp rfl (.f rfl rfl) (.s rfl) (.u rfl) rfl (mv rfl (.f rfl rfl) (.s rfl) (mv rfl (.tc rfl rfl) (.u rfl) (ls rfl (.tc rfl rfl) cE (.s rfl) (mv rfl (.tc rfl rfl) (.u rfl) (hJ (((k+3):Nat):Int) rfl (.tc rfl rfl) (.s rfl) (.u rfl) rfl (fun hc=>by omega) (fun hc=>eJ (by omega) (by omega)) ?_)))))))))))))))
  refine cp rfl (.tc rfl rfl) (.s rfl) (.s rfl) rfl (mv rfl (.tc rfl rfl) (.s rfl) (mv rfl (.fc rfl rfl) (.u rfl) (mv rfl (.fc rfl rfl) (.u rfl) (mv rfl (.fc rfl rfl) (.u rfl) (hJ (((k+3):Nat):Int) rfl (.fc rfl rfl) (.s rfl) (.u rfl) rfl (fun hc=>by omega) (fun hc=>eJ (by omega) (by omega)) ?_)))))
  refine sS (k) ((k+3)) rfl (.fc rfl rfl) cE (.s rfl) (.s rfl) (.s rfl) (fun hc=>by omega) (fun hc=>by omega) (fun hc=>by omega) (fun hc=>by simp only [Bool.and_eq_true,Bool.not_eq_true',decide_eq_false_iff_not] at hc; omega) ?_
  refine cs rfl (.fc rfl rfl) (.s rfl) (.u rfl) rfl (cF rfl (.tc rfl rfl) (.s rfl) (.s rfl) (cW rfl (.f rfl rfl) (.s rfl) (.s rfl) (cF rfl .no (.u rfl) (.s rfl) (.g (cD rfl (fun c2=>?_) (fun c2=>?_))))))
  ·have c2k:=c2
   skip
   refine .seq (bF rfl rfl (mV rfl rfl (aS rfl rfl (.nc (.ret (aN Tryz.results39 (.tmp rfl .nil) ?_))))))
   refine ⟨rfl,?_⟩; rw [hw,aLO c1 ((aHV c1).symm.trans c2k)]; rfl
  have c2k:=c2
  skip
  refine .g (aT (iB (aG s) k) ?_ ?_ ?_ ?_ ?_)
  ·exact (aA rfl (aA rfl eZ))
  ·exact (mS .here rfl mN)
  ·have ha:=aBs (aG s) k c1; show s.length-iB (aG s) k<N0; unfold iB; rw [if_pos c1]; omega
  ·exact hGl0
  (try dsimp only)<;>(rw [hw]; exact aLQ c1 ((aHV c1).symm.trans c2k))
 have c1k:=c1
 have c1:¬ k<(aG s).size:=of_decide_eq_false c1
 refine .exit (.xcode (.xlp (.xblk (.code (.seq (aP rfl rfl (aS rfl rfl (.nc (.ret (aN Tryz.results39 (.tmp rfl .nil) ?_))))))))))
 refine ⟨rfl,?_⟩; rw [hw,aLP c1]; rfl
theorem aTT (s:List UInt8) (G:PM) (hz:s.length≤1000000):Ct Tryz.prog 40 ([.string (aG s)]:List Value).toArray G [] (fun G' μ' u=>∃ hL hA:Sh,μ'=[]∧u=.tuple #[hL.val (gE s).length,hA.val (gE s).length]∧SlR G' 1 lQ hL ((gE s).map gP)∧SlR G' 1 fY hA ((gE s).map wat)):=by
 refine Ct.of Tryz.func40 rfl Tryz.ntmps40 rfl fun w0 hs0=>?_
 have hts:(aG s).size=s.length:=rfl
 refine .g (cs rfl .no (.u rfl) (.u rfl) rfl (.g (cD rfl (fun c1=>?_) (fun c1=>?_))))
 ·have c1k:=c1
  try simp only [aD,aL,aE] at c1
  refine .seq (bF rfl rfl (aS rfl rfl (aS rfl rfl (.nc (.ret (aN Tryz.results40 (.tmp rfl (.tmp rfl .nil)) ?_))))))
  obtain rfl:=aJS c1k; exact ⟨⟨none,0⟩,⟨none,0⟩,rfl,rfl,SlR.nul,SlR.nul⟩
 have c1k:=c1
 try simp only [aD,aL,aE] at c1
 refine .skip (.code (.seq (aP rfl rfl (aS rfl rfl (.nc (.seq (.seq (aP rfl rfl (aS rfl rfl (.nc (.block (mU 1 lQ 9 ?_))))))))))))
 refine mU 1 fY 3 ?_
 refine aV (α:=Nat×Nat×Value×Value×List (Nat×List UInt8)) (fun gh=>[(4,true,gh.2.2.1),(5,true,gh.2.2.2.1),(6,true,.int .i64 ((gh.2.1:Nat):Int)),(7,true,.int .i64 ((gh.1:Nat):Int))]) (fun gh=>[rS 1 fY gh.2.2.2.1 3 (gh.2.2.2.2.map wat),rS 1 lQ gh.2.2.1 9 (gh.2.2.2.2.map gP)])
  (fun gh Gl=>(gh.1≤s.length+1)∧(gh.2.1≤gh.1)∧(gh.1=s.length+1→gh.2.1=gh.1)∧(∀ x∈gK s gh.2.1 gh.1,x≠32)∧(lY 0 s=gh.2.2.2.2++oS s gh.2.1)∧(gh.2.2.2.2.length≤gh.1)∧(gh.2.2.1.oneCell'=true)∧(gh.2.2.2.1.oneCell'=true)) (fun gh=>s.length+1-gh.1) (0,0,_,_,[]) [(0,true,_)] []
  (aA rfl (aA rfl (aO rfl (aO rfl (aA rfl eZ)))))
  (mS .here rfl (mS .here rfl mN)) ?_ ?_
 ·refine ⟨?_,?_,?_,?_,?_,?_,?_,?_⟩
  ·(try dsimp only)<;>(first|omega|rfl|assumption|(simp; done))
  ·(try dsimp only)<;>(first|omega|rfl|assumption|(simp; done))
  ·(try dsimp only)<;>(first|omega|rfl|assumption|(simp; done))
  ·(try dsimp only)<;>(rw [aJ3]; intro x hx; cases hx)
  ·(try dsimp only)<;>(rfl)
  ·(try dsimp only)<;>(first|omega|rfl|assumption|(simp; done))
  ·(try dsimp only)<;>(rfl)
  (try dsimp only)<;>(rfl)
 intro gh N0 Gl0 hN0 hGl0 hF0
 obtain ⟨i,f,va,vb,acc⟩:=gh; dsimp only at hF0 hN0 ⊢
 obtain ⟨hi,hf,hfe,hn,hw,hac,ova,ovb⟩:=hF0
 refine .g (ls rfl .no cE (.u rfl) (cP rfl rfl rfl rfl (.g (cD rfl (fun c2=>?_) (fun c2=>?_)))))
 ·have c2k:=c2
  try simp only [aD,aL,aE] at c2
  refine .g (ls rfl .no cE (.u rfl) (cP rfl rfl rfl rfl (mV rfl rfl (mv rfl (.f rfl rfl) (.u rfl) (mv rfl (.f rfl rfl) (.u rfl) (sI (i) rfl (.f rfl rfl) cE (.s rfl) (.s rfl) (fun hc=>by omega) (fun hc=>by have h9:=bne_iff_ne.1 hc; omega) ?_))))))
  refine cp rfl (.f rfl rfl) (.s rfl) (.u rfl) rfl (cF rfl .no (.u rfl) (.s rfl) (.g (cD rfl (fun c3=>?_) (fun c3=>?_))))
  ·have c3k:=c3
   try simp only [aD,aL,aE] at c3
   refine .g (sS (f) (i) rfl .no cE (.u rfl) (.u rfl) (.u rfl) (by omega) (by omega) (by omega) (by omega) ?_)
   refine Go.Tan.b1 rfl mG tY (.u rfl) rfl rfl (by decide) ?_; intro b31
   refine gZ (xs:=(acc.map gP)) ((cA (((yb (aG s)).take i).drop f))) rfl mG tY rfl (.u rfl) (.u rfl) aM .here (rfl) (one1 rfl) (by rw [List.length_map]; omega) (by unfold maxLen; rw [List.length_map]; omega) ?_; intro v32 ov32
   refine aS rfl rfl (.nc (.seq (mR rfl rfl (mV rfl rfl (mV rfl rfl ?_)))))
   refine Go.Tan.b1 rfl oF qD (.u rfl) rfl rfl (by decide) ?_; intro b35
   refine gZ (xs:=(acc.map wat)) ((f:Int)) rfl oF qD rfl (.u rfl) (.u rfl) bG .here (rfl) (one1 rfl) (by rw [List.length_map]; omega) (by unfold maxLen; rw [List.length_map]; omega) ?_; intro v36 ov36
   refine .g (aW (((i+1):Nat):Int) rfl rfl rfl rfl ?_)
   refine .g (aW (((i+1):Nat):Int) rfl rfl rfl rfl ?_)
   refine .g (aT (i+1,i+1,_,_,acc++[(f,gK s f i)]) (aA rfl (aA rfl (aO rfl (aO rfl (aA rfl eZ))))) (mS .here (by rw [List.map_append]; rfl) (mS aC (by rw [List.map_append,←aV2]; rfl) mN)) ?_ ?_ ?_)
   ·first|omega|(dsimp only; omega)
   ·exact hGl0
   refine ⟨?_,?_,?_,?_,?_,?_,?_,?_⟩
   ·(try dsimp only)<;>(first|omega|rfl|assumption|(simp; done))
   ·(try dsimp only)<;>(first|omega|rfl|assumption|(simp; done))
   ·(try dsimp only)<;>(first|omega|rfl|assumption|(simp; done))
   ·(try dsimp only)<;>(rw [aJ3]; intro x hx; cases hx)
   ·(try dsimp only)<;>(rw [hw,aVs (by omega) hf c3k hn]; simp)
   ·(try dsimp only)<;>(simp; omega)
   ·(try dsimp only)<;>(assumption)
   (try dsimp only)<;>(assumption)
  have c3k:=c3
  try simp only [aD,aL,aE] at c3
  refine .g (aW (((i+1):Nat):Int) rfl rfl rfl rfl ?_)
  refine .g (aT (i+1,f,va,vb,acc) ?_ ?_ ?_ ?_ ?_)
  ·exact (aA rfl (aA rfl (aO rfl (aO rfl (aA rfl eZ)))))
  ·exact (mS .here rfl (mS .here rfl mN))
  ·first|omega|(dsimp only; omega)
  ·exact hGl0
  refine ⟨?_,?_,?_,?_,?_,?_,?_,?_⟩
  ·(try dsimp only)<;>(first|omega|rfl|assumption|(simp; done))
  ·(try dsimp only)<;>(first|omega|rfl|assumption|(simp; done))
  ·(try dsimp only)<;>(intro h9; exact aS6 (by omega) c3k h9)
  ·(try dsimp only)<;>(exact aS7 (by omega) hf c3k hn)
  ·(try dsimp only)<;>(first|omega|rfl|assumption|(simp; done))
  ·(try dsimp only)<;>(first|omega|rfl|assumption|(simp; done))
  ·(try dsimp only)<;>(first|omega|rfl|assumption|(simp; done))
  (try dsimp only)<;>(first|omega|rfl|assumption|(simp; done))
 have c2k:=c2
 try simp only [aD,aL,aE] at c2
 refine .exit (.xcode (.xlp (.xblk (.code (.seq (dI rfl rfl (mV rfl rfl (mV rfl rfl (aS rfl rfl (aS rfl rfl (.nc (.ret ?_))))))))))))
 have hwo:gE s=acc:=aVv (aJR c1k) hw (by omega)
 refine oQ aC (fun _ _=>rfl) (by intro b hb; cases hb) ?_; intro GfRL hRL hleRL evRL hsRL; subst evRL
 refine oQ .here (fun _ _=>rfl) (by intro b hb; cases hb) ?_; intro GfRA hRA hleRA evRA hsRA; subst evRA
 have hsRL:=hsRL.mono hleRA
 refine aN Tryz.results40 (.tmp rfl (.tmp rfl .nil)) ?_
 exact ⟨hRL,hRA,rfl,by rw [hwo,List.length_map,List.length_map]; rfl,by rw [hwo]; exact hsRL,by rw [hwo]; exact hsRA⟩
end Go.Proofs.YtoifkgkandfeiaaGreatDoor
namespace Go.Proofs.YtoifkgkandfeiaaGreatDoor
open Go.Tan Go.RowKit Go.Maps Go.Sort Go.Shelf
theorem qF:bY Tryz.prog 24=some none:=by kernel_rfl
theorem pW:aQ Tryz.prog 102 4=some 4:=by kernel_rfl
theorem aL6:aQ Tryz.prog 102 1=some 1:=by kernel_rfl
theorem nZ:aQ Tryz.prog 102 2=some 2:=by kernel_rfl
theorem wE:aQ Tryz.prog 102 0=some 0:=by kernel_rfl
theorem aWx:aQ Tryz.prog 102 3=some 3:=by kernel_rfl
theorem wP:aJ Tryz.prog 74=true:=by kernel_rfl
theorem uR (bl:Nat) (hL hA:Sh) (W:List (Nat×List UInt8)) (n I:Nat) (B:Option Nat) (G:PM) (hsL:SlR G 1 lQ hL (W.map gP)) (hsA:SlR G 1 fY hA (W.map wat)) (hWl:W.length≤2000) (hWw:∀ q∈W,q.2.length≤1000) (hIl:I≤W.length) (h0:B=none→0<I):Ct Tryz.prog 74 ([.pointer (some ⟨bl,0,none⟩)]:List Value).toArray G [.blk bl (cl [hL.val W.length,hA.val W.length,.int .i64 ((I:Nat):Int),.int .i64 ((n:Nat):Int),.int .i64 (gG (B))] 102)] (fun _ μ' u=>μ'=[.blk bl (cl [hL.val W.length,hA.val W.length,.int .i64 ((I:Nat):Int),.int .i64 ((n:Nat):Int),.int .i64 (gG (some (jR W I B)))] 102)]∧u=gO []):=by
 refine Ct.of Tryz.func74 rfl Tryz.ntmps74 rfl fun w0 hs0=>?_
 have hlx:(W.map gP).length=W.length:=List.length_map _
 have hla:(W.map wat).length=W.length:=List.length_map _
 refine .g (nC rfl rfl (fZ rfl pW rfl (lO rfl bA rfl .here (by first|exact aK rfl|rfl) ?_)))
 refine cP rfl rfl rfl rfl (.g (cD rfl (fun c1=>?_) (fun c1=>?_)))
 ·have c1k:=c1
  have hB:=zY (of_decide_eq_true c1)
  have hI0:=h0 hB
  refine bZ (mc:=⟨false,false⟩) [0,1,2,3,4,5,6,7,8,9,10,11,12,13,14] aY (by kernel_rfl) ?_
  refine .p (nC rfl rfl (fZ rfl aL6 rfl (lO rfl qF rfl .here (by first|exact aK rfl|rfl) ?_)))
  refine .p (nC rfl rfl (fZ rfl nZ rfl (lO rfl bA rfl .here (by first|exact aK rfl|rfl) ?_)))
  refine aW (((I-1):Nat):Int) rfl rfl rfl rfl ?_
  refine ih rfl .no oF (.u rfl) (.u rfl) (by omega) (by omega) (fun _=>hsA.nn (k:=(I-1)) (by first|omega|(simp only [Bool.and_eq_true,decide_eq_true_eq] at hc; omega)|(simp only [List.length_cons,List.length_nil]; omega))) ?_
  obtain ⟨q,eq⟩:=dT (k:=I-1) (xs:=W) (by omega)
  have eqa:(W.map wat)[I-1]? = some (wat q):=by rw [List.getElem?_map,eq]; rfl
  refine lN rfl bA rfl ((hsA.at (k:=I-1) (by omega) eqa 0 _ rfl).rd) ?_
  refine nC rfl rfl (fZ rfl pW rfl (s1 rfl (.u rfl) (.u rfl) rfl fL .here (by first|decide | (show _<5; decide)) (rfl) ?_))
  refine .g (We.fin Tryz.results74 .nil (mS .here rfl mN) ?_)
  subst hB; exact ⟨by unfold jR; rw [eq]; rfl,rfl⟩
 have c1k:=c1
 obtain ⟨b,hB⟩:=aBd (of_decide_eq_false c1)
 refine .g (We.fin Tryz.results74 .nil (mS .here rfl mN) ?_)
 subst hB; exact ⟨rfl,rfl⟩
theorem sZ (bl:Nat) (hL hA:Sh) (W:List (Nat×List UInt8)) (n I:Nat) (B:Option Nat) (r:Except Nat Ln) (G:PM) (hsL:SlR G 1 lQ hL (W.map gP)) (hsA:SlR G 1 fY hA (W.map wat)) (hR:RelS W n I B r) (hWl:W.length≤2000) (hWw:∀ q∈W,q.2.length≤1000):Ct Tryz.prog 72 ([.pointer (some ⟨bl,0,none⟩)]:List Value).toArray G [.blk bl (cl [hL.val W.length,hA.val W.length,.int .i64 ((I:Nat):Int),.int .i64 ((n:Nat):Int),.int .i64 (gG (B))] 102)] (fun _ μ' u=>∃ s I' B' r',StepP W n bV r I s I' B' r'∧s.length≤1000∧μ'=[.blk bl (cl [hL.val W.length,hA.val W.length,.int .i64 ((I':Nat):Int),.int .i64 ((n:Nat):Int),.int .i64 (gG (B'))] 102)]∧u=.string (aG s)):=by
 refine Ct.of Tryz.func72 rfl Tryz.ntmps72 rfl fun w0 hs0=>?_
 have hlx:(W.map gP).length=W.length:=List.length_map _
 have hla:(W.map wat).length=W.length:=List.length_map _
 have hIl:=hR.le
 refine .g (bZ (mc:=⟨false,false⟩) [0,1,2,3,4,5,6,7,8,9] aY (by kernel_rfl) ?_)
 refine .p (nC rfl rfl (fZ rfl nZ rfl (lO rfl bA rfl .here (by first|exact aK rfl|rfl) ?_)))
 refine .p (nC rfl rfl (fZ rfl wE rfl (lO rfl tL rfl .here (by first|exact aK rfl|rfl) ?_)))
 refine lE rfl tX rfl (cP rfl rfl rfl rfl (.g (cD rfl (fun c1=>?_) (fun c1=>?_))))
 ·have c1k:=c1
  have c1:¬ I<W.length:=by have:=of_decide_eq_true c1; omega
  refine .g (nC rfl rfl (fZ rfl pW rfl (lO rfl bA rfl .here (by first|exact aK rfl|rfl) ?_)))
  refine cP rfl rfl rfl rfl (.g (cD rfl (fun c2=>?_) (fun c2=>?_)))
  ·have c2k:=c2
   have hB:=zY (of_decide_eq_true c2)
   refine .g (nC rfl rfl (fZ rfl aWx rfl (lO rfl bA rfl .here (by first|exact aK rfl|rfl) ?_)))
   refine nC rfl rfl (fZ rfl pW rfl (s1 rfl (.u rfl) (.u rfl) rfl fL .here (by first|decide | (show _<5; decide)) (rfl) ?_))
   refine .nil (.code (.seq (aP rfl rfl (aS rfl rfl (.nc (.ret (We.fin Tryz.results72 (.tmp rfl .nil) (mS .here rfl mN) ?_)))))))
   subst hB; obtain ⟨r',h⟩:=StepP.end' hR c1 [48] (x:=n) rfl; exact ⟨[48],I,some n,r',h,by decide,rfl,rfl⟩
  have c2k:=c2
  obtain ⟨b,hB⟩:=aBd (of_decide_eq_false c2)
  refine .skip (.code (.seq (aP rfl rfl (aS rfl rfl (.nc (.ret (We.fin Tryz.results72 (.tmp rfl .nil) (mS .here rfl mN) ?_)))))))
  subst hB; obtain ⟨r',h⟩:=StepP.end' hR c1 [48] (x:=b) rfl; exact ⟨[48],I,some b,r',h,by decide,rfl,rfl⟩
 have c1k:=c1
 have c1:I<W.length:=by have:=of_decide_eq_false c1; omega
 obtain ⟨q,eq⟩:=dT (k:=I) (xs:=W) c1
 have eqx:(W.map gP)[I]? = some (gP q):=by rw [List.getElem?_map,eq]; rfl
 have hql:=hWw q (List.mem_of_getElem? eq)
 refine .g (nC rfl rfl (fZ rfl nZ rfl (lO rfl bA rfl .here (by first|exact aK rfl|rfl) ?_)))
 refine aW (((I+1):Nat):Int) rfl rfl rfl rfl ?_
 refine nC rfl rfl (fZ rfl nZ rfl (s1 rfl (.u rfl) (.u rfl) rfl fL .here (by first|decide | (show _<5; decide)) (rfl) ?_))
 refine .g (bZ (mc:=⟨false,false⟩) [0,1,2,3,4,5,6,7,8,9,10,11] aY (by kernel_rfl) ?_)
 refine .p (nC rfl rfl (fZ rfl wE rfl (lO rfl tL rfl .here (by first|exact aK rfl|rfl) ?_)))
 refine .p (nC rfl rfl (fZ rfl nZ rfl (lO rfl bA rfl .here (by first|exact aK rfl|rfl) ?_)))
 refine aW ((I:Nat):Int) rfl rfl rfl rfl ?_
 refine ih rfl .no mG (.u rfl) (.u rfl) (by omega) (by omega) (fun _=>hsL.nn (k:=I) (by first|omega|(simp only [Bool.and_eq_true,decide_eq_true_eq] at hc; omega)|(simp only [List.length_cons,List.length_nil]; omega))) ?_
 refine lN rfl cQ rfl ((hsL.at (k:=I) (by omega) eqx 0 _ rfl).rd) ?_
 refine cs rfl .no (.u rfl) (.u rfl) rfl (.g (cD rfl (fun c3=>?_) (fun c3=>?_)))
 ·have c3k:=c3
  have hqe:q.2=[]:=aJS c3
  refine .g (ka rfl (.inr rfl) wP (aB rfl aF) (bK .here) (uR bl hL hA W n (I+1) B _ hsL hsA hWl hWw (by omega) (by omega)) ?_)
  rintro _ G45 μ45 hG45 ⟨rfl,rfl⟩
  have hsL:=hsL.mono hG45
  refine .g (bZ (mc:=⟨false,false⟩) [0,1,2,3,4,5,6,7,8,9,10,11] aY (by kernel_rfl) ?_)
  refine .p (nC rfl rfl (fZ rfl wE rfl (lO rfl tL rfl .here (by first|exact aK rfl|rfl) ?_)))
  refine .p (nC rfl rfl (fZ rfl nZ rfl (lO rfl bA rfl .here (by first|exact aK rfl|rfl) ?_)))
  refine aW ((I:Nat):Int) rfl rfl rfl rfl ?_
  refine ih rfl .no mG (.u rfl) (.u rfl) (by omega) (by omega) (fun _=>hsL.nn (k:=I) (by first|omega|(simp only [Bool.and_eq_true,decide_eq_true_eq] at hc; omega)|(simp only [List.length_cons,List.length_nil]; omega))) ?_
  refine lN rfl cQ rfl ((hsL.at (k:=I) (by omega) eqx 0 _ rfl).rd) ?_
  refine aS rfl rfl (.nc (.ret (We.fin Tryz.results72 (.tmp rfl .nil) (mS .here rfl mN) ?_)))
  obtain ⟨r',h⟩:=StepP.bad hR eq hqe; exact ⟨q.2,I+1,_,r',h,hql,rfl,rfl⟩
 have c3k:=c3
 have hqe:¬ q.2=[]:=aJR c3
 refine .g (bZ (mc:=⟨false,false⟩) [0,1,2,3,4,5,6,7,8,9,10,11] aY (by kernel_rfl) ?_)
 refine .p (nC rfl rfl (fZ rfl wE rfl (lO rfl tL rfl .here (by first|exact aK rfl|rfl) ?_)))
 refine .p (nC rfl rfl (fZ rfl nZ rfl (lO rfl bA rfl .here (by first|exact aK rfl|rfl) ?_)))
 refine aW ((I:Nat):Int) rfl rfl rfl rfl ?_
 refine ih rfl .no mG (.u rfl) (.u rfl) (by omega) (by omega) (fun _=>hsL.nn (k:=I) (by first|omega|(simp only [Bool.and_eq_true,decide_eq_true_eq] at hc; omega)|(simp only [List.length_cons,List.length_nil]; omega))) ?_
 refine lN rfl cQ rfl ((hsL.at (k:=I) (by omega) eqx 0 _ rfl).rd) ?_
 refine aS rfl rfl (.nc (.ret (We.fin Tryz.results72 (.tmp rfl .nil) (mS .here rfl mN) ?_)))
 obtain ⟨r',h⟩:=StepP.step hR eq hqe; exact ⟨q.2,I+1,_,r',h,hql,rfl,rfl⟩
end Go.Proofs.YtoifkgkandfeiaaGreatDoor
namespace Go.Proofs.YtoifkgkandfeiaaGreatDoor
open Go.Tan Go.RowKit Go.Maps Go.Sort Go.Shelf
theorem aG3:cX Tryz.prog 71 [0,1,2]=some ([.int .u8 0,.string ByteArray.empty,.string ByteArray.empty],[(0,1),(1,1),(2,1)]):=by kernel_rfl
theorem tU:aJ Tryz.prog 72=true:=by kernel_rfl
theorem aMP:aJ Tryz.prog 117=true:=by kernel_rfl
theorem aWk:cX Tryz.prog 71 [1]=some ([.int .u8 0,.string ByteArray.empty,.string ByteArray.empty],[(1,1)]):=by kernel_rfl
theorem aLz:cX Tryz.prog 71 []=some ([.int .u8 0,.string ByteArray.empty,.string ByteArray.empty],[]):=by kernel_rfl
theorem aCX (bl:Nat) (hL hA:Sh) (W:List (Nat×List UInt8)) (n I:Nat) (B:Option Nat) (r:Except Nat Ln) (G:PM) (hsL:SlR G 1 lQ hL (W.map gP)) (hsA:SlR G 1 fY hA (W.map wat)) (hR:RelS W n I B r) (hWl:W.length≤2000) (hWw:∀ q∈W,q.2.length≤1000):Ct Tryz.prog 76 ([.pointer (some ⟨bl,0,none⟩)]:List Value).toArray G [.blk bl (cl [hL.val W.length,hA.val W.length,.int .i64 ((I:Nat):Int),.int .i64 ((n:Nat):Int),.int .i64 (gG (B))] 102)] (fun _ μ' u=>∃ s I' B' r',StepP W n gB r I s I' B' r'∧s.length≤1000∧μ'=[.blk bl (cl [hL.val W.length,hA.val W.length,.int .i64 ((I':Nat):Int),.int .i64 ((n:Nat):Int),.int .i64 (gG (B'))] 102)]∧u=.string (aG s)):=by
 refine Ct.of Tryz.func76 rfl Tryz.ntmps76 rfl fun w0 hs0=>?_
 have hlx:(W.map gP).length=W.length:=List.length_map _
 have hla:(W.map wat).length=W.length:=List.length_map _
 have hIl:=hR.le
 refine .g (ka rfl (.inr rfl) tU (aB rfl aF) (bK .here) (sZ bl hL hA W n I B r _ hsL hsA hR hWl hWw) ?_)
 rintro _ G5 μ5 hG5 ⟨w,I2,B2,r2,hst,hsl,rfl,rfl⟩
 have hI2:=hst.1.le
 have hwx:(aG w).size=w.length:=rfl
 refine .g (cs rfl .no (.u rfl) (.u rfl) rfl (.g (cD rfl (fun c1=>?_) (fun c1=>?_))))
 ·have c1k:=c1
  try simp only [aD,aE] at c1
  refine .seq (aP rfl rfl (aS rfl rfl (.nc (.ret (We.fin Tryz.results76 (.tmp rfl .nil) (mS .here rfl mN) ?_)))))
  exact ⟨[],I2,B2,r2,hst.ok aKr (fun l=>aU6 (w:=w) c1k l),by decide,rfl,rfl⟩
 have c1k:=c1
 try simp only [aD,aE] at c1
 refine .skip (.code (.seq (bF rfl rfl (mV rfl rfl (aS rfl rfl (.nc (.ret (We.fin Tryz.results76 (.tmp rfl .nil) (mS .here rfl mN) ?_))))))))
 exact ⟨w,I2,B2,r2,hst.ok aKr (fun l=>aU5 (w:=w) c1k l),hsl,rfl,rfl⟩
theorem yC (bl:Nat) (hL hA:Sh) (W:List (Nat×List UInt8)) (n I:Nat) (B:Option Nat) (r:Except Nat Ln) (G:PM) (hsL:SlR G 1 lQ hL (W.map gP)) (hsA:SlR G 1 fY hA (W.map wat)) (hR:RelS W n I B r) (hWl:W.length≤2000) (hWw:∀ q∈W,q.2.length≤1000):Ct Tryz.prog 73 ([.pointer (some ⟨bl,0,none⟩)]:List Value).toArray G [.blk bl (cl [hL.val W.length,hA.val W.length,.int .i64 ((I:Nat):Int),.int .i64 ((n:Nat):Int),.int .i64 (gG (B))] 102)] (fun _ μ' u=>∃ s I' B' r',StepP W n dN r I s I' B' r'∧μ'=[.blk bl (cl [hL.val W.length,hA.val W.length,.int .i64 ((I':Nat):Int),.int .i64 ((n:Nat):Int),.int .i64 (gG (B'))] 102)]∧u=.int .i64 s):=by
 refine Ct.of Tryz.func73 rfl Tryz.ntmps73 rfl fun w0 hs0=>?_
 have hlx:(W.map gP).length=W.length:=List.length_map _
 have hla:(W.map wat).length=W.length:=List.length_map _
 have hIl:=hR.le
 refine .g (ka rfl (.inr rfl) tU (aB rfl aF) (bK .here) (sZ bl hL hA W n I B r _ hsL hsA hR hWl hWw) ?_)
 rintro _ G7 μ7 hG7 ⟨w,I2,B2,r2,hst,hsl,rfl,rfl⟩
 have hI2:=hst.1.le
 have hwx:(aG w).size=w.length:=rfl
 have hsL:=hsL.mono hG7
 have hsA:=hsA.mono hG7
 refine kV rfl aMP (aB rfl aF) (aKA w _ (by omega)) ?_
 refine .p (eX rfl rfl rfl (eX rfl rfl rfl (.g (nt rfl .no (.u rfl) (.g (cD rfl (fun c1=>?_) (fun c1=>?_)))))))
 ·have c1k:=c1
  try simp only [aD,aE] at c1
  refine .g (ka rfl (.inr rfl) wP (aB rfl aF) (bK .here) (uR bl hL hA W n I2 B2 _ hsL hsA hWl hWw (by omega) hst.2.2.1) ?_)
  rintro _ G14 μ14 hG14 ⟨rfl,rfl⟩
  refine .nil (.code (.seq (bF rfl rfl (mV rfl rfl (aS rfl rfl (.nc (.ret (We.fin Tryz.results73 (.tmp rfl .nil) (mS .here rfl mN) ?_))))))))
  exact ⟨_,I2,_,_,hst.no aEy (fun l=>aRx (by simpa using c1k) l) _,rfl,rfl⟩
 have c1k:=c1
 try simp only [aD,aE] at c1
 refine .skip (.code (.seq (bF rfl rfl (mV rfl rfl (aS rfl rfl (.nc (.ret (We.fin Tryz.results73 (.tmp rfl .nil) (mS .here rfl mN) ?_))))))))
 exact ⟨_,I2,B2,r2,hst.ok aEy (fun l=>aRy (by simpa using c1k) l),rfl,rfl⟩
theorem aE9 (bl:Nat) (hL hA:Sh) (W:List (Nat×List UInt8)) (n I:Nat) (B:Option Nat) (r:Except Nat Ln) (G:PM) (hsL:SlR G 1 lQ hL (W.map gP)) (hsA:SlR G 1 fY hA (W.map wat)) (hR:RelS W n I B r) (hWl:W.length≤2000) (hWw:∀ q∈W,q.2.length≤1000):Ct Tryz.prog 77 ([.pointer (some ⟨bl,0,none⟩)]:List Value).toArray G [.blk bl (cl [hL.val W.length,hA.val W.length,.int .i64 ((I:Nat):Int),.int .i64 ((n:Nat):Int),.int .i64 (gG (B))] 102)] (fun _ μ' u=>∃ s I' B' r',StepP W n gJ r I s I' B' r'∧μ'=[.blk bl (cl [hL.val W.length,hA.val W.length,.int .i64 ((I':Nat):Int),.int .i64 ((n:Nat):Int),.int .i64 (gG (B'))] 102)]∧u=uv .u64 s):=by
 refine Ct.of Tryz.func77 rfl Tryz.ntmps77 rfl fun w0 hs0=>?_
 have hlx:(W.map gP).length=W.length:=List.length_map _
 have hla:(W.map wat).length=W.length:=List.length_map _
 have hIl:=hR.le
 refine .g (ka rfl (.inr rfl) tU (aB rfl aF) (bK .here) (sZ bl hL hA W n I B r _ hsL hsA hR hWl hWw) ?_)
 rintro _ G7 μ7 hG7 ⟨w,I2,B2,r2,hst,hsl,rfl,rfl⟩
 have hI2:=hst.1.le
 have hwx:(aG w).size=w.length:=rfl
 have hsL:=hsL.mono hG7
 have hsA:=hsA.mono hG7
 refine .g (cs rfl .no (.u rfl) (.u rfl) rfl (.g (cD rfl (fun c1=>?_) (fun c1=>?_))))
 ·have c1k:=c1
  try simp only [aD,aE] at c1
  refine .seq (aP rfl rfl (aS rfl rfl (.nc (.ret (We.fin Tryz.results77 (.tmp rfl .nil) (mS .here rfl mN) ?_)))))
  obtain rfl:=aRv c1k; exact ⟨_,I2,B2,r2,hst.ok aEw aRS,rfl,rfl⟩
 have c1k:=c1
 try simp only [aD,aE] at c1
 refine .g (kV rfl aMP (aB rfl aF) (aKA w _ (by omega)) ?_)
 refine .p (eX rfl rfl rfl (eX rfl rfl rfl (.g (nt rfl .no (.u rfl) (mV rfl rfl (mv rfl (.f rfl rfl) (.u rfl) (cp rfl (.f rfl rfl) (.s rfl) (.u rfl) rfl (cF rfl .no (.u rfl) (.s rfl) (.g (cD rfl (fun c2=>?_) (fun c2=>?_)))))))))))
 ·have c2k:=c2
  try simp only [aD,aE] at c2
  refine .g (ka rfl (.inr rfl) wP (aB rfl aF) (bK .here) (uR bl hL hA W n I2 B2 _ hsL hsA hWl hWw (by omega) hst.2.2.1) ?_)
  rintro _ G22 μ22 hG22 ⟨rfl,rfl⟩
  refine .nil (.code (.seq (aP rfl rfl (aS rfl rfl (.nc (.ret (We.fin Tryz.results77 (.tmp rfl .nil) (mS .here rfl mN) ?_)))))))
  exact ⟨_,I2,_,_,hst.no aEw (aRR (aJX c1k) (by simpa using c2)) 0#64,rfl,rfl⟩
 have c2k:=c2
 try simp only [aD,aE] at c2
 refine .g (cw rfl .no jC (.u rfl) (fun _=>oR (by omega) (by have:=aFj (s:=w); omega)) ?_)
 refine aS rfl rfl (.nc (.ret (We.fin Tryz.results77 (.tmp rfl .nil) (mS .here rfl mN) ?_)))
 have hv:=aFj (s:=w); exact ⟨_,I2,B2,r2,hst.ok aEw (aRT (aJX c1k) c2.1 c2.2),rfl,by rw [aK3 (by omega) (by omega)]; rfl⟩
theorem aCW (bl:Nat) (hL hA:Sh) (W:List (Nat×List UInt8)) (n I:Nat) (B:Option Nat) (r:Except Nat Ln) (G:PM) (hsL:SlR G 1 lQ hL (W.map gP)) (hsA:SlR G 1 fY hA (W.map wat)) (hR:RelS W n I B r) (hWl:W.length≤2000) (hWw:∀ q∈W,q.2.length≤1000):Ct Tryz.prog 75 ([.pointer (some ⟨bl,0,none⟩)]:List Value).toArray G [.blk bl (cl [hL.val W.length,hA.val W.length,.int .i64 ((I:Nat):Int),.int .i64 ((n:Nat):Int),.int .i64 (gG (B))] 102)] (fun _ μ' u=>∃ s I' B' r',StepP W n eG r I s I' B' r'∧μ'=[.blk bl (cl [hL.val W.length,hA.val W.length,.int .i64 ((I':Nat):Int),.int .i64 ((n:Nat):Int),.int .i64 (gG (B'))] 102)]∧u=.agg (Opn.cells s).toArray):=by
 refine Ct.of Tryz.func75 rfl Tryz.ntmps75 rfl fun w0 hs0=>?_
 have hlx:(W.map gP).length=W.length:=List.length_map _
 have hla:(W.map wat).length=W.length:=List.length_map _
 have hIl:=hR.le
 refine .seq (aP rfl rfl ?_)
 refine al rfl wU ?_; intro b2
 refine .g (ka rfl (.inr rfl) tU (aB rfl aF) (bK aC) (sZ bl hL hA W n I B r _ hsL hsA hR hWl hWw) ?_)
 rintro _ G6 μ6 hG6 ⟨w,I2,B2,r2,hst,hsl,rfl,rfl⟩
 have hI2:=hst.1.le
 have hwx:(aG w).size=w.length:=rfl
 have hsL:=hsL.mono hG6
 have hsA:=hsA.mono hG6
 refine .g (ls rfl .no cE (.u rfl) (cP rfl rfl rfl rfl (mV rfl rfl (mv rfl (.t rfl rfl) (.u rfl) (sI (0) rfl (.t rfl rfl) cE (.s rfl) (.u rfl) (fun hc=>by omega) (fun hc=>by have:=of_decide_eq_true hc; omega) ?_)))))
 refine cp rfl (.t rfl rfl) (.s rfl) (.u rfl) rfl (cW rfl .no (.u rfl) (.s rfl) (.g (cD rfl (fun c1=>?_) (fun c1=>?_))))
 ·have c1k:=c1
  have hm:eF w=true:=(aIf w).symm.trans c1
  refine .g (sD (1) rfl .no cE (.u rfl) (.u rfl) (by omega) (fun _=>by have:=aJF hm; omega) ?_)
  refine bC rfl .no aWk (.cons (.u rfl) rfl .nil) rfl ?_
  refine sw rfl (.u rfl) (.u rfl) rfl oZ aC rfl (Opn.one ⟨0#8,cA ((yb (aG w)).drop 1),⟨#[]⟩⟩) ?_
  refine .nil (.code (.ret (We.fin Tryz.results75 (.cell rfl (fun w hw=>bE jX (RdN.own .here) (rfl) hw) .nil) (mS aC rfl mN) ?_)))
  exact ⟨_,I2,B2,r2,hst.ok aAb (aSZ hm),rfl,rfl⟩
 have c1k:=c1
 have hm:eF w=false:=(aIf w).symm.trans c1
 refine .g (ls rfl .no cE (.u rfl) (cP rfl rfl rfl rfl (mV rfl rfl (mv rfl (.t rfl rfl) (.u rfl) (sI (0) rfl (.t rfl rfl) cE (.s rfl) (.u rfl) (fun hc=>by omega) (fun hc=>by have:=of_decide_eq_true hc; omega) ?_)))))
 refine cp rfl (.t rfl rfl) (.s rfl) (.u rfl) rfl (cW rfl .no (.u rfl) (.s rfl) (.g (cD rfl (fun c2=>?_) (fun c2=>?_))))
 ·have c2k:=c2
  have hp:w.head? = some 43:=of_decide_eq_true ((aIi w).symm.trans c2)
  refine .seq (aP rfl rfl (aS rfl rfl (.nc (.block ?_))))
  refine aV (α:=Nat) (fun i=>[(4,true,.int .i64 ((i:Nat):Int))]) (fun _=>[])
   (fun i Gl=>(1≤i)∧(i≤w.length)∧(∀ x∈w.take i,x≠61)) (fun i=>w.length-i) 1 [(0,true,_),(2,true,_),(3,true,_)] [_,_]
   (aO rfl (aA rfl (aA rfl (aA rfl eZ))))
   (mS .here rfl (mS .here rfl mN)) ?_ ?_
  ·refine ⟨?_,?_,?_⟩
   ·(try dsimp only)<;>(first|omega|rfl|assumption|(simp; done))
   ·(try dsimp only)<;>(exact aPw hp)
   (try dsimp only)<;>(exact aPM hp)
  intro i N0 Gl0 hN0 hGl0 hF0
  try dsimp only at hF0 hN0 ⊢
  obtain ⟨hi1,hil,hn⟩:=hF0
  have hsL:=hsL.mono hGl0
  have hsA:=hsA.mono hGl0
  refine .g (ls rfl .no cE (.u rfl) (cP rfl rfl rfl rfl (.g (cD rfl (fun c3=>?_) (fun c3=>?_)))))
  ·have c3k:=c3
   have c3:i<w.length:=by have:=of_decide_eq_true c3; rw [dJ] at this; omega
   refine .g (sI (i) rfl .no cE (.u rfl) (.u rfl) (by omega) (fun _=>by first|omega|(simp only [Bool.and_eq_true,decide_eq_true_eq] at hc; omega)) ?_)
   refine cP rfl rfl rfl rfl (.g (cD rfl (fun c4=>?_) (fun c4=>?_)))
   ·have c4k:=c4
    skip
    refine .seq (bZ (mc:=⟨false,false⟩) [0,1,2,3,4,5,6,7,8] aY (by kernel_rfl) ?_)
    refine .p (sS (1) (i) rfl .no cE (.u rfl) (.u rfl) (.u rfl) (by omega) (by omega) (by omega) (by omega) ?_)
    refine .p (aW (((i+1):Nat):Int) rfl rfl rfl rfl ?_)
    refine sD ((i+1)) rfl .no cE (.u rfl) (.u rfl) (by omega) (by omega) ?_
    refine bC rfl .no aG3 (.cons (.u rfl) rfl (.cons (.u rfl) rfl (.cons (.u rfl) rfl .nil))) rfl ?_
    refine sw rfl (.u rfl) (.u rfl) rfl oZ aC rfl (Opn.one ⟨1#8,cA (((yb (aG w)).take i).drop 1),cA ((yb (aG w)).drop (i+1))⟩) ?_
    refine .nil (.code (.ret (We.fin Tryz.results75 (.cell rfl (fun w hw=>bE jX (RdN.own .here) (rfl) hw) .nil) (mS aC rfl mN) ?_)))
    exact ⟨_,I2,B2,r2,hst.ok aAb (aSc hm hp hi1 c3 hn c4),rfl,rfl⟩
   have c4k:=c4
   skip
   refine .g (aW (((i+1):Nat):Int) rfl rfl rfl rfl ?_)
   refine .g (aT (i+1) ?_ ?_ ?_ ?_ ?_)
   ·exact (aO rfl (aA rfl (aA rfl (aA rfl eZ))))
   ·exact (mS .here rfl (mS .here rfl mN))
   ·first|omega|(dsimp only; omega)
   ·exact hGl0
   refine ⟨?_,?_,?_⟩
   ·(try dsimp only)<;>(first|omega|rfl|assumption|(simp; done))
   ·(try dsimp only)<;>(first|omega|rfl|assumption|(simp; done))
   (try dsimp only)<;>(exact aPN c3 c4 hn)
  have c3k:=c3
  have c3:¬ i<w.length:=by have:=of_decide_eq_false c3; rw [dJ] at this; omega
  refine .g (ka rfl (.inr rfl) wP (aB rfl aF) (bK .here) (uR bl hL hA W n I2 B2 _ hsL hsA hWl hWw (by omega) hst.2.2.1) ?_)
  rintro _ G45 μ45 hG45 ⟨rfl,rfl⟩
  have hsL:=hsL.mono hG45
  have hsA:=hsA.mono hG45
  refine .g (bC rfl .no aLz .nil rfl ?_)
  refine sw rfl (.u rfl) (.u rfl) rfl oZ aC rfl (by first|exact kF _ _|exact nT _ _|exact yA _|decide|exact qX (nT _ _) (by simp [Value.oneCell'])) ?_
  refine .nil (.code (.ret (We.fin Tryz.results75 (.cell rfl (fun w hw=>bE jX (RdN.own .here) (rfl) hw) .nil) (mS aC rfl mN) ?_)))
  exact ⟨⟨0#8,⟨#[]⟩,⟨#[]⟩⟩,I2,_,_,hst.no aAb (aSa hm (by omega) hn) _,rfl,rfl⟩
 have c2k:=c2
 have hp:¬ w.head? = some 43:=of_decide_eq_false ((aIi w).symm.trans c2)
 refine .g (ka rfl (.inr rfl) wP (aB rfl aF) (bK .here) (uR bl hL hA W n I2 B2 _ hsL hsA hWl hWw (by omega) hst.2.2.1) ?_)
 rintro _ G45 μ45 hG45 ⟨rfl,rfl⟩
 refine .g (bC rfl .no aLz .nil rfl ?_)
 refine sw rfl (.u rfl) (.u rfl) rfl oZ aC rfl (by first|exact kF _ _|exact nT _ _|exact yA _|decide|exact qX (nT _ _) (by simp [Value.oneCell'])) ?_
 refine .nil (.code (.ret (We.fin Tryz.results75 (.cell rfl (fun w hw=>bE jX (RdN.own .here) (rfl) hw) .nil) (mS aC rfl mN) ?_)))
 exact ⟨⟨0#8,⟨#[]⟩,⟨#[]⟩⟩,I2,_,_,hst.no aAb (aSb hm hp) _,rfl,rfl⟩
end Go.Proofs.YtoifkgkandfeiaaGreatDoor
namespace Go.Proofs.YtoifkgkandfeiaaGreatDoor
open Go.Tan Go.RowKit Go.Maps Go.Sort Go.Shelf
theorem iN:aQ Tryz.prog 94 1=some 1:=by kernel_rfl
theorem jD:aQ Tryz.prog 94 2=some 2:=by kernel_rfl
theorem aGR:aQ Tryz.prog 94 0=some 0:=by kernel_rfl
theorem aMM:aJ Tryz.prog 113=true:=by kernel_rfl
theorem wO:aJ Tryz.prog 68=true:=by kernel_rfl
theorem sN (bl:Nat) (l:Ln) (G:PM) (hf:l.fits):Cp Tryz.prog 66 ([.pointer (some ⟨bl,0,none⟩)]:List Value).toArray G [.blk bl (cl (Ln.cells l) 94)] (fun _ μ' u=>∃ s l',bV l=.ok (s,l')∧μ'=[.blk bl (cl (Ln.cells l') 94)]∧u=.string (aG s)) (fun ch=>∃ e,ch=[mW 91 e]∧bV l=.error e):=by
 refine Cp.of Tryz.func66 rfl Tryz.ntmps66 rfl fun w0 hs0=>?_
 have hf0:=hf
 unfold Ln.fits at hf0
 have hcl:=aOd 32 l.rest
 have hcs:(aG (bB 32 l.rest).1).size=(bB 32 l.rest).1.length:=rfl
 refine .g (nC rfl rfl (fZ rfl iN rfl (lO rfl bA rfl .here (by first|exact aK rfl|rfl) ?_)))
 refine nC rfl rfl (fZ rfl aML rfl (s1 rfl (.u rfl) (.u rfl) rfl fL .here (by first|decide | (show _<4; decide)) (rfl) ?_))
 refine .g (nC rfl rfl (fZ rfl jD rfl (lO rfl fG rfl .here (by first|exact aK rfl|rfl) ?_)))
 refine nt rfl .no (.u rfl) (.g (cD rfl (fun c1=>?_) (fun c1=>?_)))
 ·have c1k:=c1
  try simp only [aD,aE] at c1
  refine .g (nC rfl rfl (fZ rfl iN rfl (lO rfl bA rfl .here (by first|exact aK rfl|rfl) ?_)))
  refine bC rfl .no lC (.cons (.u rfl) rfl .nil) rfl ?_
  refine kN rfl jM (.u rfl) ?_
  refine kU rfl rfl (fun _ _ _ _=>⟨l.pos,rfl,by unfold bV; rw [if_neg (by simpa using c1)]⟩)
 have c1k:=c1
 try simp only [aD,aE] at c1
 refine .g (nC rfl rfl (fZ rfl aGR rfl (lO rfl cQ rfl .here (by first|exact aK rfl|rfl) ?_)))
 refine kV rfl aMM (aB rfl (aB rfl aF)) (aKV l.rest 32 _ (by omega)) ?_
 refine .p (eX rfl rfl rfl (eX rfl rfl rfl (eX rfl rfl rfl (.g (nC rfl rfl (fZ rfl iN rfl (lO rfl bA rfl .here (by first|exact aK rfl|rfl) ?_)))))))
 refine .p (ls rfl .no cE (.u rfl) (hJ (((l.pos+(aG (bB 32 l.rest).1).size):Nat):Int) rfl .no (.u rfl) (.u rfl) rfl (by omega) (fun _=>eJ (by omega) (by omega)) ?_))
 refine nC rfl rfl (fZ rfl iN rfl (s1 rfl (.u rfl) (.u rfl) rfl fL .here (by first|decide | (show _<4; decide)) (rfl) ?_))
 refine .g (cD rfl (fun c2=>?_) (fun c2=>?_))
 ·have c2k:=c2
  try simp only [aD,aE] at c2
  refine .g (nC rfl rfl (fZ rfl iN rfl (lO rfl bA rfl .here (by first|exact aK rfl|rfl) ?_)))
  refine hJ ((((l.pos+(aG (bB 32 l.rest).1).size)+1):Nat):Int) rfl .no (.u rfl) (.u rfl) rfl (by omega) (fun _=>eJ (by omega) (by omega)) ?_
  refine nC rfl rfl (fZ rfl iN rfl (s1 rfl (.u rfl) (.u rfl) rfl fL .here (by first|decide | (show _<4; decide)) (rfl) ?_))
  refine .g (nC rfl rfl (fZ rfl aGR rfl (s1 rfl (.u rfl) (.u rfl) rfl rR .here (by first|decide | (show _<4; decide)) (rfl) ?_)))
  refine nC rfl rfl (fZ rfl jD rfl (s1 rfl (.u rfl) (.u rfl) rfl wQ .here (by first|decide | (show _<4; decide)) (rfl) ?_))
  refine .g (cs rfl .no (.u rfl) (.u rfl) rfl (dZ rfl wO (aB rfl (aB rfl aF)) (bK .here) (uL bl ⟨(bB 32 l.rest).2.1,_,(bB 32 l.rest).2.2,l.pos⟩ _ _) (fun ch G9 ρ9 μ9 hle9 hd he hm=>(by obtain ⟨e,h1,h2,rfl⟩:=hd; exact ⟨_,h1,aLK (by simpa using c1) h2⟩)) ?_))
  rintro _ G61 μ61 hG61 ⟨hne,rfl,rfl⟩
  refine .nil (.code (.seq (bF rfl rfl (mV rfl rfl (aS rfl rfl (.nc (.ret (We.fin Tryz.results66 (.tmp rfl .nil) (mS .here rfl mN) ?_))))))))
  refine ⟨_,_,aLL (by simpa using c1) hne,?_,rfl⟩; first|rw [if_pos c2] | rw [if_neg (by simpa using c2)]
  rfl
 have c2k:=c2
 try simp only [aD,aE] at c2
 refine .g (nC rfl rfl (fZ rfl aGR rfl (s1 rfl (.u rfl) (.u rfl) rfl rR .here (by first|decide | (show _<4; decide)) (rfl) ?_)))
 refine nC rfl rfl (fZ rfl jD rfl (s1 rfl (.u rfl) (.u rfl) rfl wQ .here (by first|decide | (show _<4; decide)) (rfl) ?_))
 refine .g (cs rfl .no (.u rfl) (.u rfl) rfl (dZ rfl wO (aB rfl (aB rfl aF)) (bK .here) (uL bl ⟨(bB 32 l.rest).2.1,_,(bB 32 l.rest).2.2,l.pos⟩ _ _) (fun ch G9 ρ9 μ9 hle9 hd he hm=>(by obtain ⟨e,h1,h2,rfl⟩:=hd; exact ⟨_,h1,aLK (by simpa using c1) h2⟩)) ?_))
 rintro _ G61 μ61 hG61 ⟨hne,rfl,rfl⟩
 refine .nil (.code (.seq (bF rfl rfl (mV rfl rfl (aS rfl rfl (.nc (.ret (We.fin Tryz.results66 (.tmp rfl .nil) (mS .here rfl mN) ?_))))))))
 refine ⟨_,_,aLL (by simpa using c1) hne,?_,rfl⟩; first|rw [if_pos c2] | rw [if_neg (by simpa using c2)]
 rfl
end Go.Proofs.YtoifkgkandfeiaaGreatDoor
namespace Go.Proofs.YtoifkgkandfeiaaGreatDoor
open Go.Tan Go.RowKit Go.Maps Go.Sort Go.Shelf
theorem aMO:aJ Tryz.prog 115=true:=by kernel_rfl
theorem aWu:jP Tryz.prog 21 3=some .i64:=by kernel_rfl
theorem aHg (s:List UInt8) (G:PM):Ct Tryz.prog 115 ([.string (aG s),.string (aG [45])]:List Value).toArray G [] (fun _ μ' u=>μ'=[]∧u=.tuple #[.string (aG (bD s)),.bool (eF s)]):=by
 have h:=aOT s [45] G
 rw [aU2,aPs] at h
 exact h
theorem aI9 (s:List UInt8) (G:PM) (hz:s.length≤1000000):Ct Tryz.prog 114 ([.string (aG s)]:List Value).toArray G [] (fun _ μ' u=>μ'=[]∧u=.tuple #[.int .i64 (dF s).1,.bool (dF s).2]):=by
 refine Ct.of Tryz.func114 rfl Tryz.ntmps114 rfl fun w0 hs0=>?_
 have hza:(bD s).length≤s.length:=by unfold bD; split; (rw [List.length_tail]; omega); exact Nat.le_refl _
 have hts:(aG (bD s)).size=(bD s).length:=rfl
 refine .g (kV rfl aMO (aB rfl (aB rfl aF)) (aHg s _) ?_)
 refine .p (eX rfl rfl rfl (eX rfl rfl rfl (aS rfl rfl (aS rfl rfl (.nc (.seq (aP rfl rfl (aS rfl rfl (.nc (.seq (.seq (bF rfl rfl (mV rfl rfl ?_)))))))))))))
 refine rgT rfl cE (.u rfl) ?_; intro b15
 refine .nil (.code (.block ?_))
 refine aV (α:=Nat×Nat) (fun gh=>[(6,true,.int .i64 ((gh.2:Nat):Int))]) (fun gh=>[.blk b15 (.stringIter (aG (bD s)) gh.1)])
  (fun gh Gl=>(gh.1≤(bD s).length)∧(((bD s).take gh.1).all fC=true)∧(gh.2=qS ((bD s).take gh.1))∧(gh.2<10000000000)) (fun gh=>(bD s).length-gh.1) (0,0) [(0,true,_),(4,true,_),(5,true,_),(15,true,_)] []
  (aO rfl (aA rfl (aA rfl (aA rfl (aA rfl eZ)))))
  (mS .here rfl mN) ?_ ?_
 ·refine ⟨?_,?_,?_,?_⟩
  ·(try dsimp only)<;>(first|omega|rfl|assumption|(simp; done))
  ·(try dsimp only)<;>(rfl)
  ·(try dsimp only)<;>(rfl)
  (try dsimp only)<;>(first|omega|rfl|assumption|(simp; done))
 intro gh N0 Gl0 hN0 hGl0 hF0
 obtain ⟨k,n⟩:=gh; dsimp only at hF0 hN0 ⊢
 obtain ⟨hk,hall,hn,hn9⟩:=hF0
 refine .g (aCR rfl (.u rfl) .here ?_)
 refine ex (vs:=(hZ (aG (bD s)) k).toList) rfl .no (.u rfl) (aB8 _ _) (.g (cD rfl (fun c1=>?_) (fun c1=>?_)))
 ·have c1k:=c1
  try simp only [aD,aL,aE] at c1
  refine .skip (.code (.block (.seq (bF rfl rfl ?_))))
  have hkl:k<(bD s).length:=by rw [← hts]; simpa using c1
  refine ex (vs:=(hZ (aG (bD s)) k).toList) rfl .no (.u rfl) (aB9 hkl) (.g (cP rfl rfl rfl rfl (mV rfl rfl (mv rfl (.f rfl rfl) (.u rfl) (cp rfl (.f rfl rfl) (.s rfl) (.u rfl) rfl (cF rfl .no (.u rfl) (.s rfl) (.g (cD rfl (fun c2=>?_) (fun c2=>?_)))))))))
  ·have c2k:=c2
   try simp only [aD,aL,aE] at c2
   refine .seq (bF rfl rfl (aS rfl rfl (aS rfl rfl (.nc (.ret (aN Tryz.results114 (.tmp rfl (.tmp rfl .nil)) ?_))))))
   refine ⟨rfl,?_⟩; rw [aCn (aJf (aO1 hkl (by omega)))]; rfl
  have c2k:=c2
  try simp only [aD,aL,aE] at c2
  refine .skip (.code (rq8 rfl rfl ?_))
  obtain ⟨c,ec,ecn,hcd,hit⟩:=aO4 (d:=bD s) (k:=k) hkl (by omega) (by omega)
  refine .p (aW (((n*10):Nat):Int) rfl rfl rfl rfl ?_)
  refine .p (hJ ((((Utf8.decode (aG (bD s)) k).1-48:Nat)):Int) rfl .no (.u rfl) (.u rfl) rfl (by omega) (fun _=>aVp (by omega) (by omega)) ?_)
  refine cw rfl .no aWu (.u rfl) (fun _=>eJ (by omega) (by omega)) ?_
  refine hJ ((((n*10)+((Utf8.decode (aG (bD s)) k).1-48)):Nat):Int) rfl .no (.u rfl) (.u rfl) rfl (by omega) (fun _=>eJ (by omega) (by omega)) ?_
  refine rmn (((n*10)+((Utf8.decode (aG (bD s)) k).1-48))) (10000000000) rfl .no (.u rfl) (.u rfl) (by omega) (by omega) (fun _=>by first|decide|omega) ?_
  refine .g (aT (k+1,(n*10+((Utf8.decode (aG (bD s)) k).1-48))%10000000000) ?_ ?_ ?_ ?_ ?_)
  ·exact (aO rfl (aA rfl (aA rfl (aA rfl (aA rfl eZ)))))
  ·exact (mS .here (by rw [hit]) mN)
  ·first|omega|(dsimp only; omega)
  ·exact hGl0
  refine ⟨?_,?_,?_,?_⟩
  ·(try dsimp only)<;>(first|omega|rfl|assumption|(simp; done))
  ·(try dsimp only)<;>(exact aDi ec hall hcd)
  ·(try dsimp only)<;>(rw [aRU ec,←hn,ecn])
  (try dsimp only)<;>(exact Nat.mod_lt _ (by decide))
 have c1k:=c1
 try simp only [aD,aL,aE] at c1
 refine .g (cs rfl .no (.u rfl) (.u rfl) rfl (mV rfl rfl (mv rfl (.f rfl rfl) (.u rfl) (ls rfl (.f rfl rfl) cE (.s rfl) (cp rfl (.f rfl rfl) (.s rfl) (.u rfl) rfl (cF rfl .no (.u rfl) (.s rfl) (mV rfl rfl (mv rfl (.f rfl rfl) (.u rfl) (sI (0) rfl (.f rfl rfl) cE (.s rfl) (.u rfl) (fun hc=>by omega) (fun hc=>aRg hc) ?_)))))))))
 refine cp rfl (.f rfl rfl) (.s rfl) (.u rfl) rfl (mv rfl (.f rfl rfl) (.s rfl) (mv rfl (.tc rfl rfl) (.u rfl) (cs rfl (.tc rfl rfl) (.s rfl) (.u rfl) rfl (cW rfl (.f rfl rfl) (.s rfl) (.s rfl) (cF rfl .no (.u rfl) (.s rfl) (.g (cD rfl (fun c3=>?_) (fun c3=>?_))))))))
 ·have c3k:=c3
  try simp only [aD,aL,aE] at c3
  refine .seq (bF rfl rfl (aS rfl rfl (aS rfl rfl (.nc (.ret (aN Tryz.results114 (.tmp rfl (.tmp rfl .nil)) ?_))))))
  refine ⟨rfl,?_⟩; rw [aVP (by omega) hall c3k]; rfl
 have c3k:=c3
 try simp only [aD,aL,aE] at c3
 refine .g (cD rfl (fun c4=>?_) (fun c4=>?_))
 ·have c4k:=c4
  try simp only [aD,aL,aE] at c4
  refine .g (ng rfl .no (.u rfl) (fun _=>eJ (by omega) (by omega)) ?_)
  refine aS rfl rfl (aS rfl rfl (.nc (.ret (aN Tryz.results114 (.tmp rfl (.tmp rfl .nil)) ?_))))
  refine ⟨rfl,?_⟩; rw [aK7 (by omega) hall hn c3k,if_pos c4k]; rfl
 have c4k:=c4
 try simp only [aD,aL,aE] at c4
 refine .skip (.code (.seq (dQ rfl rfl (mV rfl rfl (aS rfl rfl (aS rfl rfl (.nc (.ret (aN Tryz.results114 (.tmp rfl (.tmp rfl .nil)) ?_)))))))))
 refine ⟨rfl,?_⟩; rw [aK7 (by omega) hall hn c3k,if_neg (by rw [c4k]; decide)]; rfl
end Go.Proofs.YtoifkgkandfeiaaGreatDoor
namespace Go.Proofs.YtoifkgkandfeiaaGreatDoor
open Go.Tan Go.RowKit Go.Maps Go.Sort Go.Shelf
theorem tT:aJ Tryz.prog 66=true:=by kernel_rfl
theorem aMN:aJ Tryz.prog 114=true:=by kernel_rfl
theorem aAR (bl:Nat) (l:Ln) (G:PM) (hf:l.fits):Cp Tryz.prog 67 ([.pointer (some ⟨bl,0,none⟩)]:List Value).toArray G [.blk bl (cl (Ln.cells l) 94)] (fun _ μ' u=>∃ s l',dN l=.ok (s,l')∧l'.fits∧μ'=[.blk bl (cl (Ln.cells l') 94)]∧u=.int .i64 s) (fun ch=>∃ e,ch=[mW 91 e]∧dN l=.error e):=by
 refine Cp.of Tryz.func67 rfl Tryz.ntmps67 rfl fun w0 hs0=>?_
 refine .g (dZ rfl tT (aB rfl aF) (bK .here) (sN bl l _ hf) (fun ch G9 ρ9 μ9 hle9 hd he hm=>(by obtain ⟨e,h1,h2⟩:=hd; exact ⟨e,h1,aR1 h2⟩)) ?_)
 rintro _ G7 μ7 hG7 ⟨sx,lw,ew,rfl,rfl⟩
 obtain ⟨hfw,hsw⟩:=kY hf ew
 refine kV rfl aMN (aB rfl aF) (aI9 sx _ hsw) ?_
 refine .p (eX rfl rfl rfl (eX rfl rfl rfl (.g (dZ rfl wO (aB rfl (aB rfl aF)) (bK .here) (uL bl lw _ _) (fun ch G9 ρ9 μ9 hle9 hd he hm=>(by obtain ⟨e,h1,h2,rfl⟩:=hd; exact ⟨_,h1,aRz ew h2⟩)) ?_))))
 rintro _ G13 μ13 hG13 ⟨hne,rfl,rfl⟩
 refine .nil (.code (.seq (bF rfl rfl (mV rfl rfl (aS rfl rfl (.nc (.ret (We.fin Tryz.results67 (.tmp rfl .nil) (mS .here rfl mN) ?_))))))))
 exact ⟨_,_,aR0 ew hne,hfw,rfl,rfl⟩
theorem aCG (bl:Nat) (l:Ln) (G:PM) (hf:l.fits):Cp Tryz.prog 70 ([.pointer (some ⟨bl,0,none⟩)]:List Value).toArray G [.blk bl (cl (Ln.cells l) 94)] (fun _ μ' u=>∃ s l',gB l=.ok (s,l')∧l'.fits∧μ'=[.blk bl (cl (Ln.cells l') 94)]∧u=.string (aG s)) (fun ch=>∃ e,ch=[mW 91 e]∧gB l=.error e):=by
 refine Cp.of Tryz.func70 rfl Tryz.ntmps70 rfl fun w0 hs0=>?_
 refine .g (dZ rfl tT (aB rfl aF) (bK .here) (sN bl l _ hf) (fun ch G9 ρ9 μ9 hle9 hd he hm=>(by obtain ⟨e,h1,h2⟩:=hd; exact ⟨e,h1,aUw h2⟩)) ?_)
 rintro _ G5 μ5 hG5 ⟨sx,lw,ew,rfl,rfl⟩
 obtain ⟨hfw,hsw⟩:=kY hf ew
 refine .g (cs rfl .no (.u rfl) (.u rfl) rfl (.g (cD rfl (fun c1=>?_) (fun c1=>?_))))
 ·have c1k:=c1
  try simp only [aD,aE] at c1
  refine .seq (bF rfl rfl (mV rfl rfl (aS rfl rfl (.nc (.ret (We.fin Tryz.results70 (.tmp rfl .nil) (mS .here rfl mN) ?_))))))
  exact ⟨_,_,aUu ew c1k,hfw,rfl,rfl⟩
 have c1k:=c1
 try simp only [aD,aE] at c1
 refine .skip (.code (.seq (aP rfl rfl (aS rfl rfl (.nc (.ret (We.fin Tryz.results70 (.tmp rfl .nil) (mS .here rfl mN) ?_)))))))
 exact ⟨_,_,aUv ew c1k,hfw,rfl,rfl⟩
theorem aEq (bl:Nat) (l:Ln) (G:PM) (hf:l.fits):Cp Tryz.prog 71 ([.pointer (some ⟨bl,0,none⟩)]:List Value).toArray G [.blk bl (cl (Ln.cells l) 94)] (fun _ μ' u=>∃ s l',gJ l=.ok (s,l')∧l'.fits∧μ'=[.blk bl (cl (Ln.cells l') 94)]∧u=uv .u64 s) (fun ch=>∃ e,ch=[mW 91 e]∧gJ l=.error e):=by
 refine Cp.of Tryz.func71 rfl Tryz.ntmps71 rfl fun w0 hs0=>?_
 refine .g (dZ rfl tT (aB rfl aF) (bK .here) (sN bl l _ hf) (fun ch G9 ρ9 μ9 hle9 hd he hm=>(by obtain ⟨e,h1,h2⟩:=hd; exact ⟨e,h1,aRY h2⟩)) ?_)
 rintro _ G7 μ7 hG7 ⟨sx,lw,ew,rfl,rfl⟩
 obtain ⟨hfw,hsw⟩:=kY hf ew
 refine .g (cs rfl .no (.u rfl) (.u rfl) rfl (.g (cD rfl (fun c1=>?_) (fun c1=>?_))))
 ·have c1k:=c1
  try simp only [aD,aE] at c1
  refine .seq (aP rfl rfl (aS rfl rfl (.nc (.ret (We.fin Tryz.results71 (.tmp rfl .nil) (mS .here rfl mN) ?_)))))
  exact ⟨_,_,aRW ew c1k,hfw,rfl,rfl⟩
 have c1k:=c1
 try simp only [aD,aE] at c1
 refine .g (kV rfl aMN (aB rfl aF) (aI9 sx _ hsw) ?_)
 refine .p (eX rfl rfl rfl (eX rfl rfl rfl (aS rfl rfl (aS rfl rfl (.nc (.seq (uV rfl rfl (mV rfl rfl (mV rfl rfl (mV rfl rfl (mv rfl (.t rfl rfl) (.u rfl) (cp rfl (.t rfl rfl) (.s rfl) (.u rfl) rfl (cW rfl .no (.u rfl) (.s rfl) (dZ rfl wO (aB rfl (aB rfl aF)) (bK .here) (uL bl lw _ _) (fun ch G9 ρ9 μ9 hle9 hd he hm=>(by obtain ⟨e,h1,h2,rfl⟩:=hd; exact ⟨_,h1,aRV ew c1k h2⟩)) ?_))))))))))))))
 rintro _ G21 μ21 hG21 ⟨hne,rfl,rfl⟩
 refine .nil (.code (.seq (dQ rfl rfl (mV rfl rfl ?_))))
 have hvl:=aFj (s:=sx)
 have hv0:0≤(dF sx).1:=by have:=hne; simp at this; exact this.2
 refine cw rfl .no jC (.u rfl) (fun _=>oR hv0 (by omega)) ?_
 refine aS rfl rfl (.nc (.ret (We.fin Tryz.results71 (.tmp rfl .nil) (mS .here rfl mN) ?_)))
 exact ⟨_,_,aRX ew c1k hne,hfw,rfl,by rw [aK3 hv0 hvl.2]; rfl⟩
end Go.Proofs.YtoifkgkandfeiaaGreatDoor
namespace Go.Proofs.YtoifkgkandfeiaaGreatDoor
open Go.Tan Go.RowKit Go.Maps Go.Sort Go.Shelf
theorem aWj:cX Tryz.prog 71 [0,1]=some ([.int .u8 0,.string ByteArray.empty,.string ByteArray.empty],[(0,1),(1,1)]):=by kernel_rfl
theorem aXS:aJ Tryz.prog 116=true:=by kernel_rfl
theorem aP2 (s:List UInt8) (G:PM):Ct Tryz.prog 116 ([.string (aG s),.string (aG [43])]:List Value).toArray G [] (fun _ μ' u=>μ'=[]∧u=.bool (decide (s.head? = some 43))):=by
 have h:=aP3 s [43] G
 rw [aEd] at h
 exact h
theorem aI6 (bl:Nat) (l:Ln) (G:PM) (hf:l.fits):Cp Tryz.prog 69 ([.pointer (some ⟨bl,0,none⟩)]:List Value).toArray G [.blk bl (cl (Ln.cells l) 94)] (fun _ μ' u=>∃ s l',eG l=.ok (s,l')∧l'.fits∧μ'=[.blk bl (cl (Ln.cells l') 94)]∧u=.agg (Opn.cells s).toArray) (fun ch=>∃ e,ch=[mW 91 e]∧eG l=.error e):=by
 refine Cp.of Tryz.func69 rfl Tryz.ntmps69 rfl fun w0 hs0=>?_
 refine .seq (aP rfl rfl ?_)
 refine al rfl wU ?_; intro b2
 refine .g (dZ rfl tT (aB rfl aF) (bK aC) (sN bl l _ hf) (fun ch G9 ρ9 μ9 hle9 hd he hm=>(by obtain ⟨e,h1,h2⟩:=hd; exact ⟨e,h1,aSY h2⟩)) ?_)
 rintro _ G10 μ10 hG10 ⟨sx,lw,ew,rfl,rfl⟩
 obtain ⟨hfw,hsw⟩:=kY hf ew
 refine .g (kV rfl aMO (aB rfl (aB rfl aF)) (aHg sx _) ?_)
 refine .p (eX rfl rfl rfl (eX rfl rfl rfl (.g (cD rfl (fun c1=>?_) (fun c1=>?_)))))
 ·have c1k:=c1
  try simp only [aD,aE] at c1
  refine .g (bC rfl .no aWj (.cons (.u rfl) rfl (.cons (.u rfl) rfl .nil)) rfl ?_)
  refine sw rfl (.u rfl) (.u rfl) rfl oZ aC rfl (Opn.one ⟨0#8,aG (bD sx),⟨#[]⟩⟩) ?_
  refine .nil (.code (.ret (We.fin Tryz.results69 (.cell rfl (fun w hw=>bE jX (RdN.own .here) (rfl) hw) .nil) (mS aC rfl mN) ?_)))
  exact ⟨_,_,aSV ew c1k,hfw,rfl,rfl⟩
 have c1k:=c1
 try simp only [aD,aE] at c1
 refine .g (kV rfl aMM (aB rfl (aB rfl aF)) (aKV sx 61 _ (by omega)) ?_)
 refine .p (eX rfl rfl rfl (eX rfl rfl rfl (eX rfl rfl rfl (aS rfl rfl (aS rfl rfl (aS rfl rfl (.nc (.seq (uV rfl rfl (mV rfl rfl (mV rfl rfl (mV rfl rfl (mv rfl (.t rfl rfl) (.u rfl) (kv rfl (.t rfl rfl) aXS (Eva.cons (.s rfl) (aB rfl aF)) (fun hc=>aP2 _ _) ?_))))))))))))))
 refine cW rfl .no (.u rfl) (.s rfl) (dZ rfl wO (aB rfl (aB rfl aF)) (bK .here) (uL bl lw _ _) (fun ch G9 ρ9 μ9 hle9 hd he hm=>(by obtain ⟨e,h1,h2,rfl⟩:=hd; exact ⟨_,h1,aSW ew c1k h2⟩)) ?_)
 rintro _ G31 μ31 hG31 ⟨hne,rfl,rfl⟩
 refine .g (sD (1) rfl .no cE (.u rfl) (.u rfl) (by omega) (fun _=>aSe hne) ?_)
 refine .p (bC rfl .no aG3 (.cons (.u rfl) rfl (.cons (.u rfl) rfl (.cons (.u rfl) rfl .nil))) rfl ?_)
 refine sw rfl (.u rfl) (.u rfl) rfl oZ aC rfl (Opn.one ⟨1#8,cA ((yb (aG (bB 61 sx).1)).drop 1),aG (bB 61 sx).2.1⟩) ?_
 refine .nil (.code (.ret (We.fin Tryz.results69 (.cell rfl (fun w hw=>bE jX (RdN.own .here) (rfl) hw) .nil) (mS aC rfl mN) ?_)))
 exact ⟨_,_,aSX ew c1k hne,hfw,rfl,by rw [vE]; rfl⟩
end Go.Proofs.YtoifkgkandfeiaaGreatDoor
namespace Go.Proofs.YtoifkgkandfeiaaGreatDoor
open Go.Tan Go.RowKit Go.Maps Go.Sort Go.Shelf
theorem nD:(Tryz.prog.info? 71).bind (·.zero)=some (.agg #[.int .u8 0,.string ByteArray.empty,.string ByteArray.empty]):=by kernel_rfl
theorem lF:bY Tryz.prog 22=some none:=by kernel_rfl
theorem iP:dV Tryz.prog 27=some ([.int .u8 0,.int .i64 0,.slice none 0 0,.bool false,.string ByteArray.empty,.string ByteArray.empty,.int .u64 0,.int .i64 0,.slice none 0 0,.string ByteArray.empty,.slice none 0 0]):=by kernel_rfl
theorem aBG:aJ Tryz.prog 67=true:=by kernel_rfl
theorem eV:aQ Tryz.prog 27 0=some 0:=by kernel_rfl
theorem aA5:aQ Tryz.prog 27 1=some 1:=by kernel_rfl
theorem zF:aQ Tryz.prog 27 3=some 3:=by kernel_rfl
theorem aMk:aJ Tryz.prog 69=true:=by kernel_rfl
theorem mD:aQ Tryz.prog 27 2=some 2:=by kernel_rfl
theorem zP:cI Tryz.prog 22=some 1:=by kernel_rfl
theorem bU:bY Tryz.prog 27=some (some 11):=by kernel_rfl
theorem cN:cI Tryz.prog 27=some 11:=by kernel_rfl
theorem aDO:aJ Tryz.prog 70=true:=by kernel_rfl
theorem aA6:aQ Tryz.prog 27 4=some 4:=by kernel_rfl
theorem aGh:aJ Tryz.prog 71=true:=by kernel_rfl
theorem tQ:aQ Tryz.prog 27 6=some 6:=by kernel_rfl
theorem aDG:aQ Tryz.prog 27 5=some 5:=by kernel_rfl
theorem tR:aQ Tryz.prog 27 7=some 7:=by kernel_rfl
theorem pY:aQ Tryz.prog 27 8=some 8:=by kernel_rfl
theorem aGu:cI Tryz.prog 24=some 1:=by kernel_rfl
theorem aDH:aQ Tryz.prog 27 9=some 9:=by kernel_rfl
theorem aDF:aQ Tryz.prog 27 10=some 10:=by kernel_rfl
theorem aIx (bl:Nat) (l:Ln) (G:PM) (hf:l.fits):Cp Tryz.prog 38 ([.pointer (some ⟨bl,0,none⟩)]:List Value).toArray G [.blk bl (cl (Ln.cells l) 94)] (fun G' μ' u=>∃ e hO hK hB l',iR l=.ok e∧l'.fits∧μ'=[.blk bl (cl (Ln.cells l') 94)]∧u=.agg (EvD.cells e (hO.val e.ops.length) (hK.val e.keep.length) (hB.val e.bytes.length)).toArray∧SlR G' 3 Opn.cells hO e.ops∧SlR G' 1 fY hK e.keep∧SlR G' 1 aU hB (yb (aG e.bytes))) (fun ch=>∃ e,ch=[mW 91 e]∧iR l=.error e):=by
 refine Cp.of Tryz.func38 rfl Tryz.ntmps38 rfl fun w0 hs0=>?_
 refine .seq (aP rfl rfl ?_)
 refine al rfl iP ?_; intro b2
 refine .g (dZ rfl tT (aB rfl aF) (bK aC) (sN bl l _ hf) (fun ch G9 ρ9 μ9 hle9 hd he hm=>(by obtain ⟨e,h1,h2⟩:=hd; exact ⟨e,h1,aIG h2⟩)) ?_)
 rintro _ G7 μ7 hG7 ⟨sx,lx,ew,rfl,rfl⟩
 have hfx:=(kY hf ew).1
 have hc:=aIF ew
 refine .g (cs rfl .no (.u rfl) (.u rfl) rfl (.g (cD rfl (fun c1=>?_) (fun c1=>?_))))
 ·have c1k:=c1
  try simp only [aD,aE] at c1
  refine .seq (gM rfl rfl ?_)
  obtain rfl:sx=vT:=fJ (by assumption)
  rw [aEO] at hc
  refine .p (dZ rfl aBG (aB rfl aF) (bK .here) (aAR bl _ _ (by assumption)) (fun ch G9 ρ9 μ9 hle9 hd he hm=>(by obtain ⟨e,h1,h2⟩:=hd; exact ⟨e,h1,by rw [hc,iF h2]⟩)) ?_)
  rintro _ G13 μ13 hG13 ⟨a7,lx,ha,hfx,rfl,rfl⟩
  rw [dB ha] at hc
  refine fZ rfl eV rfl (s1 rfl (.u rfl) (.u rfl) rfl fM aC (by first|decide | (show _<4; decide) | (show _<11; decide)) (rfl) ?_)
  refine fZ rfl aA5 rfl (s1 rfl (.u rfl) (.u rfl) rfl fL .here (by first|decide | (show _<4; decide) | (show _<11; decide)) (rfl) ?_)
  refine .g (dZ rfl tT (aB rfl aF) (bK aC) (sN bl _ _ (by assumption)) (fun ch G9 ρ9 μ9 hle9 hd he hm=>(by obtain ⟨e,h1,h2⟩:=hd; exact ⟨e,h1,by rw [hc,iF h2]⟩)) ?_)
  rintro _ G17 μ17 hG17 ⟨how,lx,ha,rfl,rfl⟩
  have hfx:=(kY (by assumption) ha).1
  have hsx:=(kY (by assumption) ha).2
  rw [dB ha] at hc
  refine .g (cs rfl .no (.u rfl) (.u rfl) rfl (mV rfl rfl (mv rfl (.f rfl rfl) (.u rfl) (cs rfl (.f rfl rfl) (.s rfl) (.u rfl) rfl (cF rfl .no (.u rfl) (.s rfl) (dZ rfl wO (aB rfl (aB rfl aF)) (bK .here) (uL bl lx _ _) (fun ch G9 ρ9 μ9 hle9 hd he hm=>(by obtain ⟨e,h1,h2,rfl⟩:=hd; exact ⟨_,h1,by rw [hc,if_neg (aIg h2)]⟩)) ?_))))))
  rintro _ G25 μ25 hG25 ⟨hne,rfl,rfl⟩
  rw [if_pos (aIh hne)] at hc
  refine .g (cs rfl .no (.u rfl) (.u rfl) rfl (fZ rfl zF rfl (s1 rfl (.u rfl) (.u rfl) rfl wQ aC (by first|decide | (show _<4; decide) | (show _<11; decide)) (rfl) ?_)))
  refine .g (dZ rfl aMk (aB rfl aF) (bK aC) (aI6 bl _ _ (by assumption)) (fun ch G9 ρ9 μ9 hle9 hd he hm=>(by obtain ⟨e,h1,h2⟩:=hd; exact ⟨e,h1,by rw [hc,iF h2]⟩)) ?_)
  rintro _ G30 μ30 hG30 ⟨o,lx,ha,hfx,rfl,rfl⟩
  rw [dB ha] at hc
  refine Go.Tan.b1 rfl gW nD (.u rfl) rfl rfl (by decide) ?_; intro b31
  refine fZ rfl mD rfl (s1 rfl (.u rfl) (.u rfl) rfl zP aM (by first|decide | (show _<4; decide) | (show _<11; decide)) (rfl) ?_)
  refine .nil (.code (.block (aLI (sz:=3) (enc:=Opn.cells) [o] 1 aC rfl rfl (fun _ _=>rfl) (by decide) ?_)))
  refine aV (α:=Value×List Opn×Ln) (fun _=>[]) (fun gh=>[rS 3 Opn.cells gh.1 71 gh.2.1,.blk b2 (cl (EvD.cells { EvD.zero with kind:=1#8,client:=a7,sync:=decide (how=eP) } gh.1 (.slice none 0 0) (.slice none 0 0)) 27),.blk bl (cl (Ln.cells gh.2.2) 94)])
   (fun gh Gl=>(gh.2.2.fits)∧(dL [o] (fI lx)=dL gh.2.1 (fI gh.2.2))∧(gh.2.1.length+gh.2.2.rest.length≤1000001)∧(gh.1.oneCell'=true)) (fun gh=>gh.2.2.rest.length) (_,[o],lx) [(0,true,_),(2,true,_)] []
   (aA rfl (aA rfl eZ))
   (mS .here rfl (mS .here (by rw [← fD how eP]; rfl) (mS .here rfl mN))) ?_ ?_
  ·refine ⟨?_,?_,?_,?_⟩
   ·(try dsimp only)<;>(first|omega|rfl|assumption|(simp; done))
   ·(try dsimp only)<;>(first|omega|rfl|assumption|(simp; done))
   ·(try dsimp only)<;>(have:=hfx; unfold Ln.fits at this; simp; omega)
   (try dsimp only)<;>(rfl)
  intro gh N0 Gl0 hN0 hGl0 hF0
  obtain ⟨v,os,lw⟩:=gh; dsimp only at hF0 hN0 ⊢
  obtain ⟨hfw,hcw,hos,hov⟩:=hF0
  refine .g (nC rfl rfl (fZ rfl jD rfl (lO rfl fG rfl aM (by first|exact aK rfl|rfl) ?_)))
  refine .g (cD rfl (fun c2=>?_) (fun c2=>?_))
  ·have c2k:=c2
   try simp only [aD,aE] at c2
   refine .g (dZ rfl aMk (aB rfl aF) (bK aM) (aI6 bl _ _ (by assumption)) (fun ch G9 ρ9 μ9 hle9 hd he hm=>(by obtain ⟨e,h1,h2⟩:=hd; exact ⟨e,h1,by rw [hc,iF (aNd (hcw.trans (aJq (by assumption) h2)))]⟩)) ?_)
   rintro _ G38 μ38 hG38 ⟨o2,lx,ha,hfx,rfl,rfl⟩
   have hgo:=hcw.trans (aJr (by assumption) ha)
   have hls:=aCS ha
   refine al rfl wU ?_; intro b4
   refine sw rfl (.u rfl) (.u rfl) rfl oZ .here rfl (Opn.one o2) ?_
   refine .g (fZ rfl mD rfl (lO rfl lF rfl bG (by first|exact aK rfl|rfl) ?_))
   refine lB rfl jX rfl .here ?_
   refine Go.Tan.b1 rfl gW nD (.u rfl) rfl rfl (by decide) ?_; intro b42
   refine gZ (xs:=os) (o2) rfl gW nD rfl (.u rfl) (.u rfl) bG .here (rfl) (Opn.one _) (by omega) (by unfold maxLen; omega) ?_; intro v43 ov43
   refine fZ rfl mD rfl (iM rfl (.u rfl) (.u rfl) .here zP eN (by first|decide | (show _<4; decide) | (show _<11; decide)) (rfl) ?_)
   refine .g (aT (_,os++[o2],lx) (aA rfl (aA rfl eZ)) (mS aC rfl (mS .here rfl (mS aM rfl mN))) ?_ ?_ ?_)
   ·first|omega|(dsimp only; omega)
   ·exact (hGl0).trans hG38
   refine ⟨?_,?_,?_,?_⟩
   ·(try dsimp only)<;>(first|omega|rfl|assumption|(simp; done))
   ·(try dsimp only)<;>(exact hgo)
   ·(try dsimp only)<;>(simp; omega)
   (try dsimp only)<;>(assumption)
  have c2k:=c2
  try simp only [aD,aE] at c2
  refine .g (nC rfl rfl (fZ rfl jD rfl (lO rfl fG rfl aM (by first|exact aK rfl|rfl) ?_)))
  refine .g (cD rfl (fun c3=>?_) (fun c3=>?_))
  ·have c3k:=c3
   try simp only [aD,aE] at c3
   refine .g (nC rfl rfl (fZ rfl iN rfl (lO rfl bA rfl aM (by first|exact aK rfl|rfl) ?_)))
   refine bC rfl .no lC (.cons (.u rfl) rfl .nil) rfl ?_
   refine kN rfl jM (.u rfl) ?_
   refine kU rfl rfl (fun _ _ _ _=>⟨_,rfl,by first|exact dG hc (by assumption)|exact dG (hc.trans (dB (hcw.trans (kO (by assumption))))) (by assumption) | (obtain ⟨q,hq,rfl⟩:=lH (hcw.trans (kP (by assumption))); exact dG (hc.trans (dB hq)) (by assumption))⟩)
  have c3k:=c3
  try simp only [aD,aE] at c3
  refine .g (lB rfl bU rfl aC ?_)
  refine sw rfl (.u rfl) (.u rfl) rfl cN aC rfl (by first|exact dP rfl|exact EvD.one _ hov rfl rfl|exact EvD.one _ rfl hov rfl) ?_
  refine .nil (.code (.ret ?_))
  obtain ⟨q,hq,rfl⟩:=lH (hcw.trans (kP (by assumption)))
  rw [dB hq] at hc
  refine oQ aC (fun _ _=>rfl) (cM aC rfl (jH)) ?_; intro GfRO hRO hleRO evRO hsRO; subst evRO
  refine We.fin Tryz.results38 (.cell rfl (fun w hw=>bE bU (RdN.own .here) (rfl) hw) .nil) (mS aC rfl mN) ?_
  exact ⟨_,hRO,⟨none,0⟩,⟨none,0⟩,lw,mL hc (by assumption),hfw,rfl,rfl,hsRO,SlR.nul,dM⟩
 have c1k:=c1
 try simp only [aD,aE] at c1
 refine .g (cs rfl .no (.u rfl) (.u rfl) rfl (.g (cD rfl (fun c4=>?_) (fun c4=>?_))))
 ·have c4k:=c4
  try simp only [aD,aE] at c4
  refine .seq (gM rfl rfl ?_)
  obtain rfl:sx=vJ:=fJ (by assumption)
  rw [aEF] at hc
  refine .p (dZ rfl aDO (aB rfl aF) (bK .here) (aCG bl _ _ (by assumption)) (fun ch G9 ρ9 μ9 hle9 hd he hm=>(by obtain ⟨e,h1,h2⟩:=hd; exact ⟨e,h1,by rw [hc,iF h2]⟩)) ?_)
  rintro _ G48 μ48 hG48 ⟨a7,lx,ha,hfx,rfl,rfl⟩
  rw [dB ha] at hc
  refine fZ rfl eV rfl (s1 rfl (.u rfl) (.u rfl) rfl fM aC (by first|decide | (show _<4; decide) | (show _<11; decide)) (rfl) ?_)
  refine fZ rfl aA6 rfl (s1 rfl (.u rfl) (.u rfl) rfl rR .here (by first|decide | (show _<4; decide) | (show _<11; decide)) (rfl) ?_)
  refine .g (dZ rfl aGh (aB rfl aF) (bK aC) (aEq bl _ _ (by assumption)) (fun ch G9 ρ9 μ9 hle9 hd he hm=>(by obtain ⟨e,h1,h2⟩:=hd; exact ⟨e,h1,by rw [hc,iF h2]⟩)) ?_)
  rintro _ G52 μ52 hG52 ⟨a7,lx,ha,hfx,rfl,rfl⟩
  rw [dB ha] at hc
  refine fZ rfl tQ rfl (s1 rfl (.u rfl) (.u rfl) rfl pA aC (by first|decide | (show _<4; decide) | (show _<11; decide)) (rfl) ?_)
  refine .g (nC rfl rfl (fZ rfl jD rfl (lO rfl fG rfl aC (by first|exact aK rfl|rfl) ?_)))
  refine .g (cD rfl (fun c5=>?_) (fun c5=>?_))
  ·have c5k:=c5
   try simp only [aD,aE] at c5
   refine .g (nC rfl rfl (fZ rfl iN rfl (lO rfl bA rfl aC (by first|exact aK rfl|rfl) ?_)))
   refine bC rfl .no lC (.cons (.u rfl) rfl .nil) rfl ?_
   refine kN rfl jM (.u rfl) ?_
   refine kU rfl rfl (fun _ _ _ _=>⟨_,rfl,by first|exact dG hc (by assumption)|exact dG (hc.trans (dB (hcw.trans (kO (by assumption))))) (by assumption) | (obtain ⟨q,hq,rfl⟩:=lH (hcw.trans (kP (by assumption))); exact dG (hc.trans (dB hq)) (by assumption))⟩)
  have c5k:=c5
  try simp only [aD,aE] at c5
  refine .g (lB rfl bU rfl .here ?_)
  refine sw rfl (.u rfl) (.u rfl) rfl cN .here rfl (by first|exact dP rfl|exact EvD.one _ hov rfl rfl|exact EvD.one _ rfl hov rfl) ?_
  refine .nil (.code (.ret (We.fin Tryz.results38 (.cell rfl (fun w hw=>bE bU (RdN.own .here) (rfl) hw) .nil) (mS aC rfl mN) ?_)))
  exact ⟨_,⟨none,0⟩,⟨none,0⟩,⟨none,0⟩,lx,mL hc (by assumption),hfx,rfl,rfl,SlR.nul,SlR.nul,dM⟩
 have c4k:=c4
 try simp only [aD,aE] at c4
 refine .g (cs rfl .no (.u rfl) (.u rfl) rfl (.g (cD rfl (fun c6=>?_) (fun c6=>?_))))
 ·have c6k:=c6
  try simp only [aD,aE] at c6
  refine .seq (gM rfl rfl ?_)
  obtain rfl:sx=vR:=fJ (by assumption)
  rw [aEN] at hc
  refine .p (dZ rfl aDO (aB rfl aF) (bK .here) (aCG bl _ _ (by assumption)) (fun ch G9 ρ9 μ9 hle9 hd he hm=>(by obtain ⟨e,h1,h2⟩:=hd; exact ⟨e,h1,by rw [hc,iF h2]⟩)) ?_)
  rintro _ G57 μ57 hG57 ⟨a7,lx,ha,hfx,rfl,rfl⟩
  rw [dB ha] at hc
  refine fZ rfl eV rfl (s1 rfl (.u rfl) (.u rfl) rfl fM aC (by first|decide | (show _<4; decide) | (show _<11; decide)) (rfl) ?_)
  refine fZ rfl aA6 rfl (s1 rfl (.u rfl) (.u rfl) rfl rR .here (by first|decide | (show _<4; decide) | (show _<11; decide)) (rfl) ?_)
  refine .g (dZ rfl aDO (aB rfl aF) (bK aC) (aCG bl _ _ (by assumption)) (fun ch G9 ρ9 μ9 hle9 hd he hm=>(by obtain ⟨e,h1,h2⟩:=hd; exact ⟨e,h1,by rw [hc,iF h2]⟩)) ?_)
  rintro _ G61 μ61 hG61 ⟨a7,lx,ha,hfx,rfl,rfl⟩
  rw [dB ha] at hc
  refine fZ rfl aDG rfl (s1 rfl (.u rfl) (.u rfl) rfl rR aC (by first|decide | (show _<4; decide) | (show _<11; decide)) (rfl) ?_)
  refine .g (dZ rfl aGh (aB rfl aF) (bK aC) (aEq bl _ _ (by assumption)) (fun ch G9 ρ9 μ9 hle9 hd he hm=>(by obtain ⟨e,h1,h2⟩:=hd; exact ⟨e,h1,by rw [hc,iF h2]⟩)) ?_)
  rintro _ G64 μ64 hG64 ⟨a7,lx,ha,hfx,rfl,rfl⟩
  rw [dB ha] at hc
  refine fZ rfl tQ rfl (s1 rfl (.u rfl) (.u rfl) rfl pA aC (by first|decide | (show _<4; decide) | (show _<11; decide)) (rfl) ?_)
  refine .g (nC rfl rfl (fZ rfl jD rfl (lO rfl fG rfl aC (by first|exact aK rfl|rfl) ?_)))
  refine .g (cD rfl (fun c7=>?_) (fun c7=>?_))
  ·have c7k:=c7
   try simp only [aD,aE] at c7
   refine .g (nC rfl rfl (fZ rfl iN rfl (lO rfl bA rfl aC (by first|exact aK rfl|rfl) ?_)))
   refine bC rfl .no lC (.cons (.u rfl) rfl .nil) rfl ?_
   refine kN rfl jM (.u rfl) ?_
   refine kU rfl rfl (fun _ _ _ _=>⟨_,rfl,by first|exact dG hc (by assumption)|exact dG (hc.trans (dB (hcw.trans (kO (by assumption))))) (by assumption) | (obtain ⟨q,hq,rfl⟩:=lH (hcw.trans (kP (by assumption))); exact dG (hc.trans (dB hq)) (by assumption))⟩)
  have c7k:=c7
  try simp only [aD,aE] at c7
  refine .g (lB rfl bU rfl .here ?_)
  refine sw rfl (.u rfl) (.u rfl) rfl cN .here rfl (by first|exact dP rfl|exact EvD.one _ hov rfl rfl|exact EvD.one _ rfl hov rfl) ?_
  refine .nil (.code (.ret (We.fin Tryz.results38 (.cell rfl (fun w hw=>bE bU (RdN.own .here) (rfl) hw) .nil) (mS aC rfl mN) ?_)))
  exact ⟨_,⟨none,0⟩,⟨none,0⟩,⟨none,0⟩,lx,mL hc (by assumption),hfx,rfl,rfl,SlR.nul,SlR.nul,dM⟩
 have c6k:=c6
 try simp only [aD,aE] at c6
 refine .g (cs rfl .no (.u rfl) (.u rfl) rfl (.g (cD rfl (fun c8=>?_) (fun c8=>?_))))
 ·have c8k:=c8
  try simp only [aD,aE] at c8
  refine bF rfl rfl ?_
  obtain rfl:sx=vK:=fJ (by assumption)
  rw [aEG] at hc
  refine fZ rfl eV rfl (s1 rfl (.u rfl) (.u rfl) rfl fM aC (by first|decide | (show _<4; decide) | (show _<11; decide)) (rfl) ?_)
  refine .g (nC rfl rfl (fZ rfl jD rfl (lO rfl fG rfl aC (by first|exact aK rfl|rfl) ?_)))
  refine .g (cD rfl (fun c9=>?_) (fun c9=>?_))
  ·have c9k:=c9
   try simp only [aD,aE] at c9
   refine .g (nC rfl rfl (fZ rfl iN rfl (lO rfl bA rfl aC (by first|exact aK rfl|rfl) ?_)))
   refine bC rfl .no lC (.cons (.u rfl) rfl .nil) rfl ?_
   refine kN rfl jM (.u rfl) ?_
   refine kU rfl rfl (fun _ _ _ _=>⟨_,rfl,by first|exact dG hc (by assumption)|exact dG (hc.trans (dB (hcw.trans (kO (by assumption))))) (by assumption) | (obtain ⟨q,hq,rfl⟩:=lH (hcw.trans (kP (by assumption))); exact dG (hc.trans (dB hq)) (by assumption))⟩)
  have c9k:=c9
  try simp only [aD,aE] at c9
  refine .g (lB rfl bU rfl .here ?_)
  refine sw rfl (.u rfl) (.u rfl) rfl cN .here rfl (by first|exact dP rfl|exact EvD.one _ hov rfl rfl|exact EvD.one _ rfl hov rfl) ?_
  refine .nil (.code (.ret (We.fin Tryz.results38 (.cell rfl (fun w hw=>bE bU (RdN.own .here) (rfl) hw) .nil) (mS aC rfl mN) ?_)))
  exact ⟨_,⟨none,0⟩,⟨none,0⟩,⟨none,0⟩,lx,mL hc (by assumption),hfx,rfl,rfl,SlR.nul,SlR.nul,dM⟩
 have c8k:=c8
 try simp only [aD,aE] at c8
 refine .g (cs rfl .no (.u rfl) (.u rfl) rfl (.g (cD rfl (fun c10=>?_) (fun c10=>?_))))
 ·have c10k:=c10
  try simp only [aD,aE] at c10
  refine gM rfl rfl ?_
  obtain rfl:sx=vN:=fJ (by assumption)
  rw [aEI] at hc
  refine .p (dZ rfl aGh (aB rfl aF) (bK .here) (aEq bl _ _ (by assumption)) (fun ch G9 ρ9 μ9 hle9 hd he hm=>(by obtain ⟨e,h1,h2⟩:=hd; exact ⟨e,h1,by rw [hc,iF h2]⟩)) ?_)
  rintro _ G72 μ72 hG72 ⟨a7,lx,ha,hfx,rfl,rfl⟩
  rw [dB ha] at hc
  refine fZ rfl eV rfl (s1 rfl (.u rfl) (.u rfl) rfl fM aC (by first|decide | (show _<4; decide) | (show _<11; decide)) (rfl) ?_)
  refine fZ rfl tQ rfl (s1 rfl (.u rfl) (.u rfl) rfl pA .here (by first|decide | (show _<4; decide) | (show _<11; decide)) (rfl) ?_)
  refine .g (nC rfl rfl (fZ rfl jD rfl (lO rfl fG rfl aC (by first|exact aK rfl|rfl) ?_)))
  refine .g (cD rfl (fun c11=>?_) (fun c11=>?_))
  ·have c11k:=c11
   try simp only [aD,aE] at c11
   refine .g (nC rfl rfl (fZ rfl iN rfl (lO rfl bA rfl aC (by first|exact aK rfl|rfl) ?_)))
   refine bC rfl .no lC (.cons (.u rfl) rfl .nil) rfl ?_
   refine kN rfl jM (.u rfl) ?_
   refine kU rfl rfl (fun _ _ _ _=>⟨_,rfl,by first|exact dG hc (by assumption)|exact dG (hc.trans (dB (hcw.trans (kO (by assumption))))) (by assumption) | (obtain ⟨q,hq,rfl⟩:=lH (hcw.trans (kP (by assumption))); exact dG (hc.trans (dB hq)) (by assumption))⟩)
  have c11k:=c11
  try simp only [aD,aE] at c11
  refine .g (lB rfl bU rfl .here ?_)
  refine sw rfl (.u rfl) (.u rfl) rfl cN .here rfl (by first|exact dP rfl|exact EvD.one _ hov rfl rfl|exact EvD.one _ rfl hov rfl) ?_
  refine .nil (.code (.ret (We.fin Tryz.results38 (.cell rfl (fun w hw=>bE bU (RdN.own .here) (rfl) hw) .nil) (mS aC rfl mN) ?_)))
  exact ⟨_,⟨none,0⟩,⟨none,0⟩,⟨none,0⟩,lx,mL hc (by assumption),hfx,rfl,rfl,SlR.nul,SlR.nul,dM⟩
 have c10k:=c10
 try simp only [aD,aE] at c10
 refine .g (cs rfl .no (.u rfl) (.u rfl) rfl (.g (cD rfl (fun c12=>?_) (fun c12=>?_))))
 ·have c12k:=c12
  try simp only [aD,aE] at c12
  refine gM rfl rfl ?_
  obtain rfl:sx=vP:=fJ (by assumption)
  rw [aEL] at hc
  refine .p (dZ rfl aBG (aB rfl aF) (bK .here) (aAR bl _ _ (by assumption)) (fun ch G9 ρ9 μ9 hle9 hd he hm=>(by obtain ⟨e,h1,h2⟩:=hd; exact ⟨e,h1,by rw [hc,iF h2]⟩)) ?_)
  rintro _ G78 μ78 hG78 ⟨a7,lx,ha,hfx,rfl,rfl⟩
  rw [dB ha] at hc
  refine fZ rfl eV rfl (s1 rfl (.u rfl) (.u rfl) rfl fM aC (by first|decide | (show _<4; decide) | (show _<11; decide)) (rfl) ?_)
  refine fZ rfl tR rfl (s1 rfl (.u rfl) (.u rfl) rfl fL .here (by first|decide | (show _<4; decide) | (show _<11; decide)) (rfl) ?_)
  refine .g (nC rfl rfl (fZ rfl jD rfl (lO rfl fG rfl aC (by first|exact aK rfl|rfl) ?_)))
  refine .g (cD rfl (fun c13=>?_) (fun c13=>?_))
  ·have c13k:=c13
   try simp only [aD,aE] at c13
   refine .g (nC rfl rfl (fZ rfl iN rfl (lO rfl bA rfl aC (by first|exact aK rfl|rfl) ?_)))
   refine bC rfl .no lC (.cons (.u rfl) rfl .nil) rfl ?_
   refine kN rfl jM (.u rfl) ?_
   refine kU rfl rfl (fun _ _ _ _=>⟨_,rfl,by first|exact dG hc (by assumption)|exact dG (hc.trans (dB (hcw.trans (kO (by assumption))))) (by assumption) | (obtain ⟨q,hq,rfl⟩:=lH (hcw.trans (kP (by assumption))); exact dG (hc.trans (dB hq)) (by assumption))⟩)
  have c13k:=c13
  try simp only [aD,aE] at c13
  refine .g (lB rfl bU rfl .here ?_)
  refine sw rfl (.u rfl) (.u rfl) rfl cN .here rfl (by first|exact dP rfl|exact EvD.one _ hov rfl rfl|exact EvD.one _ rfl hov rfl) ?_
  refine .nil (.code (.ret (We.fin Tryz.results38 (.cell rfl (fun w hw=>bE bU (RdN.own .here) (rfl) hw) .nil) (mS aC rfl mN) ?_)))
  exact ⟨_,⟨none,0⟩,⟨none,0⟩,⟨none,0⟩,lx,mL hc (by assumption),hfx,rfl,rfl,SlR.nul,SlR.nul,dM⟩
 have c12k:=c12
 try simp only [aD,aE] at c12
 refine .g (cs rfl .no (.u rfl) (.u rfl) rfl (.g (cD rfl (fun c14=>?_) (fun c14=>?_))))
 ·have c14k:=c14
  try simp only [aD,aE] at c14
  refine gM rfl rfl ?_
  obtain rfl:sx=vQ:=fJ (by assumption)
  rw [aEM] at hc
  refine .p (dZ rfl aBG (aB rfl aF) (bK .here) (aAR bl _ _ (by assumption)) (fun ch G9 ρ9 μ9 hle9 hd he hm=>(by obtain ⟨e,h1,h2⟩:=hd; exact ⟨e,h1,by rw [hc,iF h2]⟩)) ?_)
  rintro _ G84 μ84 hG84 ⟨a7,lx,ha,hfx,rfl,rfl⟩
  rw [dB ha] at hc
  refine fZ rfl eV rfl (s1 rfl (.u rfl) (.u rfl) rfl fM aC (by first|decide | (show _<4; decide) | (show _<11; decide)) (rfl) ?_)
  refine fZ rfl tR rfl (s1 rfl (.u rfl) (.u rfl) rfl fL .here (by first|decide | (show _<4; decide) | (show _<11; decide)) (rfl) ?_)
  refine .g (nC rfl rfl (fZ rfl jD rfl (lO rfl fG rfl aC (by first|exact aK rfl|rfl) ?_)))
  refine .g (cD rfl (fun c15=>?_) (fun c15=>?_))
  ·have c15k:=c15
   try simp only [aD,aE] at c15
   refine .g (nC rfl rfl (fZ rfl iN rfl (lO rfl bA rfl aC (by first|exact aK rfl|rfl) ?_)))
   refine bC rfl .no lC (.cons (.u rfl) rfl .nil) rfl ?_
   refine kN rfl jM (.u rfl) ?_
   refine kU rfl rfl (fun _ _ _ _=>⟨_,rfl,by first|exact dG hc (by assumption)|exact dG (hc.trans (dB (hcw.trans (kO (by assumption))))) (by assumption) | (obtain ⟨q,hq,rfl⟩:=lH (hcw.trans (kP (by assumption))); exact dG (hc.trans (dB hq)) (by assumption))⟩)
  have c15k:=c15
  try simp only [aD,aE] at c15
  refine .g (lB rfl bU rfl .here ?_)
  refine sw rfl (.u rfl) (.u rfl) rfl cN .here rfl (by first|exact dP rfl|exact EvD.one _ hov rfl rfl|exact EvD.one _ rfl hov rfl) ?_
  refine .nil (.code (.ret (We.fin Tryz.results38 (.cell rfl (fun w hw=>bE bU (RdN.own .here) (rfl) hw) .nil) (mS aC rfl mN) ?_)))
  exact ⟨_,⟨none,0⟩,⟨none,0⟩,⟨none,0⟩,lx,mL hc (by assumption),hfx,rfl,rfl,SlR.nul,SlR.nul,dM⟩
 have c14k:=c14
 try simp only [aD,aE] at c14
 refine .g (cs rfl .no (.u rfl) (.u rfl) rfl (.g (cD rfl (fun c16=>?_) (fun c16=>?_))))
 ·have c16k:=c16
  try simp only [aD,aE] at c16
  refine gM rfl rfl ?_
  obtain rfl:sx=vH:=fJ (by assumption)
  rw [aED] at hc
  refine .p (dZ rfl aBG (aB rfl aF) (bK .here) (aAR bl _ _ (by assumption)) (fun ch G9 ρ9 μ9 hle9 hd he hm=>(by obtain ⟨e,h1,h2⟩:=hd; exact ⟨e,h1,by rw [hc,iF h2]⟩)) ?_)
  rintro _ G90 μ90 hG90 ⟨a7,lx,ha,hfx,rfl,rfl⟩
  rw [dB ha] at hc
  refine fZ rfl eV rfl (s1 rfl (.u rfl) (.u rfl) rfl fM aC (by first|decide | (show _<4; decide) | (show _<11; decide)) (rfl) ?_)
  refine fZ rfl tR rfl (s1 rfl (.u rfl) (.u rfl) rfl fL .here (by first|decide | (show _<4; decide) | (show _<11; decide)) (rfl) ?_)
  refine .g (nC rfl rfl (fZ rfl jD rfl (lO rfl fG rfl aC (by first|exact aK rfl|rfl) ?_)))
  refine .g (cD rfl (fun c17=>?_) (fun c17=>?_))
  ·have c17k:=c17
   try simp only [aD,aE] at c17
   refine .g (nC rfl rfl (fZ rfl iN rfl (lO rfl bA rfl aC (by first|exact aK rfl|rfl) ?_)))
   refine bC rfl .no lC (.cons (.u rfl) rfl .nil) rfl ?_
   refine kN rfl jM (.u rfl) ?_
   refine kU rfl rfl (fun _ _ _ _=>⟨_,rfl,by first|exact dG hc (by assumption)|exact dG (hc.trans (dB (hcw.trans (kO (by assumption))))) (by assumption) | (obtain ⟨q,hq,rfl⟩:=lH (hcw.trans (kP (by assumption))); exact dG (hc.trans (dB hq)) (by assumption))⟩)
  have c17k:=c17
  try simp only [aD,aE] at c17
  refine .g (lB rfl bU rfl .here ?_)
  refine sw rfl (.u rfl) (.u rfl) rfl cN .here rfl (by first|exact dP rfl|exact EvD.one _ hov rfl rfl|exact EvD.one _ rfl hov rfl) ?_
  refine .nil (.code (.ret (We.fin Tryz.results38 (.cell rfl (fun w hw=>bE bU (RdN.own .here) (rfl) hw) .nil) (mS aC rfl mN) ?_)))
  exact ⟨_,⟨none,0⟩,⟨none,0⟩,⟨none,0⟩,lx,mL hc (by assumption),hfx,rfl,rfl,SlR.nul,SlR.nul,dM⟩
 have c16k:=c16
 try simp only [aD,aE] at c16
 refine .g (cs rfl .no (.u rfl) (.u rfl) rfl (.g (cD rfl (fun c18=>?_) (fun c18=>?_))))
 ·have c18k:=c18
  try simp only [aD,aE] at c18
  refine .seq (bF rfl rfl ?_)
  obtain rfl:sx=vG:=fJ (by assumption)
  rw [aEC] at hc
  refine fZ rfl eV rfl (s1 rfl (.u rfl) (.u rfl) rfl fM aC (by first|decide | (show _<4; decide) | (show _<11; decide)) (rfl) ?_)
  refine .nil (.code (.block (mU 1 fY 3 ?_)))
  refine aV (α:=Value×List Int×Ln) (fun _=>[]) (fun gh=>[rS 1 fY gh.1 3 gh.2.1,.blk b2 (cl (EvD.cells { EvD.zero with kind:=9#8 } (.slice none 0 0) gh.1 (.slice none 0 0)) 27),.blk bl (cl (Ln.cells gh.2.2) 94)])
   (fun gh Gl=>(gh.2.2.fits)∧(gA lx=dL gh.2.1 (gA gh.2.2))∧(gh.2.1.length+gh.2.2.rest.length≤1000001)∧(gh.1.oneCell'=true)) (fun gh=>gh.2.2.rest.length) (_,[],lx) [(0,true,_),(2,true,_)] []
   (aA rfl (aA rfl eZ))
   (mS .here rfl (mS .here rfl (mS .here rfl mN))) ?_ ?_
  ·refine ⟨?_,?_,?_,?_⟩
   ·(try dsimp only)<;>(first|omega|rfl|assumption|(simp; done))
   ·(try dsimp only)<;>(exact (aHH _).symm)
   ·(try dsimp only)<;>(have:=hfx; unfold Ln.fits at this; simp; omega)
   (try dsimp only)<;>(rfl)
  intro gh N1 Gl1 hN1 hGl1 hF1
  obtain ⟨v,os,lw⟩:=gh; dsimp only at hF1 hN1 ⊢
  obtain ⟨hfw,hcw,hos,hov⟩:=hF1
  refine .g (nC rfl rfl (fZ rfl jD rfl (lO rfl fG rfl aM (by first|exact aK rfl|rfl) ?_)))
  refine .g (cD rfl (fun c19=>?_) (fun c19=>?_))
  ·have c19k:=c19
   try simp only [aD,aE] at c19
   refine .g (dZ rfl aBG (aB rfl aF) (bK aM) (aAR bl _ _ (by assumption)) (fun ch G9 ρ9 μ9 hle9 hd he hm=>(by obtain ⟨e,h1,h2⟩:=hd; exact ⟨e,h1,by rw [hc,iF (hcw.trans (aJc (by assumption) h2))]⟩)) ?_)
   rintro _ G101 μ101 hG101 ⟨o2,lx,ha,hfx,rfl,rfl⟩
   have hgo:=hcw.trans (aJd (by assumption) ha)
   have hls:=aCO ha
   refine .g (fZ rfl pY rfl (lO rfl qF rfl aM (by first|exact aK rfl|rfl) ?_))
   refine mV rfl rfl ?_
   refine Go.Tan.b1 rfl oF qD (.u rfl) rfl rfl (by decide) ?_; intro b105
   refine gZ (xs:=os) (o2) rfl oF qD rfl (.u rfl) (.u rfl) aM .here (rfl) (one1 rfl) (by omega) (by unfold maxLen; omega) ?_; intro v106 ov106
   refine fZ rfl pY rfl (iM rfl (.u rfl) (.u rfl) .here aGu bG (by first|decide | (show _<4; decide) | (show _<11; decide)) (rfl) ?_)
   refine .g (aT (_,os++[o2],lx) (aA rfl (aA rfl eZ)) (mS aC rfl (mS .here rfl (mS aC rfl mN))) ?_ ?_ ?_)
   ·first|omega|(dsimp only; omega)
   ·exact (hGl1).trans hG101
   refine ⟨?_,?_,?_,?_⟩
   ·(try dsimp only)<;>(first|omega|rfl|assumption|(simp; done))
   ·(try dsimp only)<;>(exact hgo)
   ·(try dsimp only)<;>(simp; omega)
   (try dsimp only)<;>(assumption)
  have c19k:=c19
  try simp only [aD,aE] at c19
  refine .g (nC rfl rfl (fZ rfl jD rfl (lO rfl fG rfl aM (by first|exact aK rfl|rfl) ?_)))
  refine .g (cD rfl (fun c20=>?_) (fun c20=>?_))
  ·have c20k:=c20
   try simp only [aD,aE] at c20
   refine .g (nC rfl rfl (fZ rfl iN rfl (lO rfl bA rfl aM (by first|exact aK rfl|rfl) ?_)))
   refine bC rfl .no lC (.cons (.u rfl) rfl .nil) rfl ?_
   refine kN rfl jM (.u rfl) ?_
   refine kU rfl rfl (fun _ _ _ _=>⟨_,rfl,by first|exact dG hc (by assumption)|exact dG (hc.trans (dB (hcw.trans (kO (by assumption))))) (by assumption) | (obtain ⟨q,hq,rfl⟩:=lH (hcw.trans (kP (by assumption))); exact dG (hc.trans (dB hq)) (by assumption))⟩)
  have c20k:=c20
  try simp only [aD,aE] at c20
  refine .g (lB rfl bU rfl aC ?_)
  refine sw rfl (.u rfl) (.u rfl) rfl cN aC rfl (by first|exact dP rfl|exact EvD.one _ hov rfl rfl|exact EvD.one _ rfl hov rfl) ?_
  refine .nil (.code (.ret ?_))
  have hq:=hcw.trans (kO (by assumption))
  rw [dB hq] at hc
  refine oQ aC (fun _ _=>rfl) (cM aC rfl (jH)) ?_; intro GfRK hRK hleRK evRK hsRK; subst evRK
  refine We.fin Tryz.results38 (.cell rfl (fun w hw=>bE bU (RdN.own .here) (rfl) hw) .nil) (mS aC rfl mN) ?_
  exact ⟨_,⟨none,0⟩,hRK,⟨none,0⟩,lw,mL hc (by assumption),hfw,rfl,rfl,SlR.nul,hsRK,dM⟩
 have c18k:=c18
 try simp only [aD,aE] at c18
 refine .g (cs rfl .no (.u rfl) (.u rfl) rfl (.g (cD rfl (fun c21=>?_) (fun c21=>?_))))
 ·have c21k:=c21
  try simp only [aD,aE] at c21
  refine bF rfl rfl ?_
  obtain rfl:sx=vO:=fJ (by assumption)
  rw [aEK] at hc
  refine fZ rfl eV rfl (s1 rfl (.u rfl) (.u rfl) rfl fM aC (by first|decide | (show _<4; decide) | (show _<11; decide)) (rfl) ?_)
  refine .g (nC rfl rfl (fZ rfl jD rfl (lO rfl fG rfl aC (by first|exact aK rfl|rfl) ?_)))
  refine .g (cD rfl (fun c22=>?_) (fun c22=>?_))
  ·have c22k:=c22
   try simp only [aD,aE] at c22
   refine .g (nC rfl rfl (fZ rfl iN rfl (lO rfl bA rfl aC (by first|exact aK rfl|rfl) ?_)))
   refine bC rfl .no lC (.cons (.u rfl) rfl .nil) rfl ?_
   refine kN rfl jM (.u rfl) ?_
   refine kU rfl rfl (fun _ _ _ _=>⟨_,rfl,by first|exact dG hc (by assumption)|exact dG (hc.trans (dB (hcw.trans (kO (by assumption))))) (by assumption) | (obtain ⟨q,hq,rfl⟩:=lH (hcw.trans (kP (by assumption))); exact dG (hc.trans (dB hq)) (by assumption))⟩)
  have c22k:=c22
  try simp only [aD,aE] at c22
  refine .g (lB rfl bU rfl .here ?_)
  refine sw rfl (.u rfl) (.u rfl) rfl cN .here rfl (by first|exact dP rfl|exact EvD.one _ hov rfl rfl|exact EvD.one _ rfl hov rfl) ?_
  refine .nil (.code (.ret (We.fin Tryz.results38 (.cell rfl (fun w hw=>bE bU (RdN.own .here) (rfl) hw) .nil) (mS aC rfl mN) ?_)))
  exact ⟨_,⟨none,0⟩,⟨none,0⟩,⟨none,0⟩,lx,mL hc (by assumption),hfx,rfl,rfl,SlR.nul,SlR.nul,dM⟩
 have c21k:=c21
 try simp only [aD,aE] at c21
 refine .g (cs rfl .no (.u rfl) (.u rfl) rfl (.g (cD rfl (fun c23=>?_) (fun c23=>?_))))
 ·have c23k:=c23
  try simp only [aD,aE] at c23
  refine bF rfl rfl ?_
  obtain rfl:sx=vF:=fJ (by assumption)
  rw [aEB] at hc
  refine fZ rfl eV rfl (s1 rfl (.u rfl) (.u rfl) rfl fM aC (by first|decide | (show _<4; decide) | (show _<11; decide)) (rfl) ?_)
  refine .g (nC rfl rfl (fZ rfl jD rfl (lO rfl fG rfl aC (by first|exact aK rfl|rfl) ?_)))
  refine .g (cD rfl (fun c24=>?_) (fun c24=>?_))
  ·have c24k:=c24
   try simp only [aD,aE] at c24
   refine .g (nC rfl rfl (fZ rfl iN rfl (lO rfl bA rfl aC (by first|exact aK rfl|rfl) ?_)))
   refine bC rfl .no lC (.cons (.u rfl) rfl .nil) rfl ?_
   refine kN rfl jM (.u rfl) ?_
   refine kU rfl rfl (fun _ _ _ _=>⟨_,rfl,by first|exact dG hc (by assumption)|exact dG (hc.trans (dB (hcw.trans (kO (by assumption))))) (by assumption) | (obtain ⟨q,hq,rfl⟩:=lH (hcw.trans (kP (by assumption))); exact dG (hc.trans (dB hq)) (by assumption))⟩)
  have c24k:=c24
  try simp only [aD,aE] at c24
  refine .g (lB rfl bU rfl .here ?_)
  refine sw rfl (.u rfl) (.u rfl) rfl cN .here rfl (by first|exact dP rfl|exact EvD.one _ hov rfl rfl|exact EvD.one _ rfl hov rfl) ?_
  refine .nil (.code (.ret (We.fin Tryz.results38 (.cell rfl (fun w hw=>bE bU (RdN.own .here) (rfl) hw) .nil) (mS aC rfl mN) ?_)))
  exact ⟨_,⟨none,0⟩,⟨none,0⟩,⟨none,0⟩,lx,mL hc (by assumption),hfx,rfl,rfl,SlR.nul,SlR.nul,dM⟩
 have c23k:=c23
 try simp only [aD,aE] at c23
 refine .g (cs rfl .no (.u rfl) (.u rfl) rfl (.g (cD rfl (fun c25=>?_) (fun c25=>?_))))
 ·have c25k:=c25
  try simp only [aD,aE] at c25
  refine .seq (gM rfl rfl ?_)
  obtain rfl:sx=vM:=fJ (by assumption)
  rw [aEH] at hc
  refine .p (dZ rfl tT (aB rfl aF) (bK .here) (sN bl _ _ (by assumption)) (fun ch G9 ρ9 μ9 hle9 hd he hm=>(by obtain ⟨e,h1,h2⟩:=hd; exact ⟨e,h1,by rw [hc,iF h2]⟩)) ?_)
  rintro _ G117 μ117 hG117 ⟨a7,lx,ha,rfl,rfl⟩
  have hfx:=(kY (by assumption) ha).1
  have hsx:=(kY (by assumption) ha).2
  rw [dB ha] at hc
  refine fZ rfl eV rfl (s1 rfl (.u rfl) (.u rfl) rfl fM aC (by first|decide | (show _<4; decide) | (show _<11; decide)) (rfl) ?_)
  refine fZ rfl aDH rfl (s1 rfl (.u rfl) (.u rfl) rfl rR .here (by first|decide | (show _<4; decide) | (show _<11; decide)) (rfl) ?_)
  refine .g (dZ rfl aDO (aB rfl aF) (bK aC) (aCG bl _ _ (by assumption)) (fun ch G9 ρ9 μ9 hle9 hd he hm=>(by obtain ⟨e,h1,h2⟩:=hd; exact ⟨e,h1,by rw [hc,iF h2]⟩)) ?_)
  rintro _ G121 μ121 hG121 ⟨a7,lx,ha,hfx,rfl,rfl⟩
  rw [dB ha] at hc
  refine cvS rfl rfl aGz (.u rfl) ?_; intro G122 h122 hG122 hs122
  refine fZ rfl aDF rfl (s1 rfl (.u rfl) (.u rfl) rfl rQ aC (by first|decide | (show _<4; decide) | (show _<11; decide)) (rfl) ?_)
  refine .g (nC rfl rfl (fZ rfl jD rfl (lO rfl fG rfl aC (by first|exact aK rfl|rfl) ?_)))
  refine .g (cD rfl (fun c26=>?_) (fun c26=>?_))
  ·have c26k:=c26
   try simp only [aD,aE] at c26
   refine .g (nC rfl rfl (fZ rfl iN rfl (lO rfl bA rfl aC (by first|exact aK rfl|rfl) ?_)))
   refine bC rfl .no lC (.cons (.u rfl) rfl .nil) rfl ?_
   refine kN rfl jM (.u rfl) ?_
   refine kU rfl rfl (fun _ _ _ _=>⟨_,rfl,by first|exact dG hc (by assumption)|exact dG (hc.trans (dB (hcw.trans (kO (by assumption))))) (by assumption) | (obtain ⟨q,hq,rfl⟩:=lH (hcw.trans (kP (by assumption))); exact dG (hc.trans (dB hq)) (by assumption))⟩)
  have c26k:=c26
  try simp only [aD,aE] at c26
  refine .g (lB rfl bU rfl .here ?_)
  refine sw rfl (.u rfl) (.u rfl) rfl cN .here rfl (by first|exact dP rfl|exact EvD.one _ hov rfl rfl|exact EvD.one _ rfl hov rfl) ?_
  refine .nil (.code (.ret (We.fin Tryz.results38 (.cell rfl (fun w hw=>bE bU (RdN.own .here) (rfl) hw) .nil) (mS aC rfl mN) ?_)))
  exact ⟨_,⟨none,0⟩,⟨none,0⟩,h122,lx,mL hc (by assumption),hfx,rfl,(by rw [show (yb (aG a7)).length=a7.length from by rw [eQ]; rfl]; rfl),SlR.nul,SlR.nul,hs122⟩
 have c25k:=c25
 try simp only [aD,aE] at c25
 refine .g (cs rfl .no (.u rfl) (.u rfl) rfl (.g (cD rfl (fun c27=>?_) (fun c27=>?_))))
 ·have c27k:=c27
  try simp only [aD,aE] at c27
  refine gM rfl rfl ?_
  obtain rfl:sx=vI:=fJ (by assumption)
  rw [aEE] at hc
  refine .p (dZ rfl tT (aB rfl aF) (bK .here) (sN bl _ _ (by assumption)) (fun ch G9 ρ9 μ9 hle9 hd he hm=>(by obtain ⟨e,h1,h2⟩:=hd; exact ⟨e,h1,by rw [hc,iF h2]⟩)) ?_)
  rintro _ G127 μ127 hG127 ⟨a7,lx,ha,rfl,rfl⟩
  have hfx:=(kY (by assumption) ha).1
  have hsx:=(kY (by assumption) ha).2
  rw [dB ha] at hc
  refine fZ rfl eV rfl (s1 rfl (.u rfl) (.u rfl) rfl fM aC (by first|decide | (show _<4; decide) | (show _<11; decide)) (rfl) ?_)
  refine fZ rfl aDH rfl (s1 rfl (.u rfl) (.u rfl) rfl rR .here (by first|decide | (show _<4; decide) | (show _<11; decide)) (rfl) ?_)
  refine .g (nC rfl rfl (fZ rfl jD rfl (lO rfl fG rfl aC (by first|exact aK rfl|rfl) ?_)))
  refine .g (cD rfl (fun c28=>?_) (fun c28=>?_))
  ·have c28k:=c28
   try simp only [aD,aE] at c28
   refine .g (nC rfl rfl (fZ rfl iN rfl (lO rfl bA rfl aC (by first|exact aK rfl|rfl) ?_)))
   refine bC rfl .no lC (.cons (.u rfl) rfl .nil) rfl ?_
   refine kN rfl jM (.u rfl) ?_
   refine kU rfl rfl (fun _ _ _ _=>⟨_,rfl,by first|exact dG hc (by assumption)|exact dG (hc.trans (dB (hcw.trans (kO (by assumption))))) (by assumption) | (obtain ⟨q,hq,rfl⟩:=lH (hcw.trans (kP (by assumption))); exact dG (hc.trans (dB hq)) (by assumption))⟩)
  have c28k:=c28
  try simp only [aD,aE] at c28
  refine .g (lB rfl bU rfl .here ?_)
  refine sw rfl (.u rfl) (.u rfl) rfl cN .here rfl (by first|exact dP rfl|exact EvD.one _ hov rfl rfl|exact EvD.one _ rfl hov rfl) ?_
  refine .nil (.code (.ret (We.fin Tryz.results38 (.cell rfl (fun w hw=>bE bU (RdN.own .here) (rfl) hw) .nil) (mS aC rfl mN) ?_)))
  exact ⟨_,⟨none,0⟩,⟨none,0⟩,⟨none,0⟩,lx,mL hc (by assumption),hfx,rfl,rfl,SlR.nul,SlR.nul,dM⟩
 have c27k:=c27
 try simp only [aD,aE] at c27
 refine .g (dZ rfl wO (aB rfl (aB rfl aF)) (bK .here) (uL bl lx false _) (fun ch G9 ρ9 μ9 hle9 hd he hm=>(by obtain ⟨e,h1,h2,rfl⟩:=hd; exact ⟨_,h1,by rw [hc,aEJ (fK (by assumption)) (fK (by assumption)) (fK (by assumption)) (fK (by assumption)) (fK (by assumption)) (fK (by assumption)) (fK (by assumption)) (fK (by assumption)) (fK (by assumption)) (fK (by assumption)) (fK (by assumption)) (fK (by assumption)) (fK (by assumption))]⟩)) ?_)
 rintro _ G9 μ9 hG9 ⟨hne,rfl,rfl⟩
 cases hne
end Go.Proofs.YtoifkgkandfeiaaGreatDoor
namespace Go.Proofs.YtoifkgkandfeiaaGreatDoor
open Go.Tan Go.RowKit Go.Maps Go.Sort Go.Shelf
theorem rU:cX Tryz.prog 27 []=some ([.int .u8 0,.int .i64 0,.slice none 0 0,.bool false,.string ByteArray.empty,.string ByteArray.empty,.int .u64 0,.int .i64 0,.slice none 0 0,.string ByteArray.empty,.slice none 0 0],[]):=by kernel_rfl
theorem zJ:aJ Tryz.prog 73=true:=by kernel_rfl
theorem aWa:cX Tryz.prog 27 [0,1]=some ([.int .u8 0,.int .i64 0,.slice none 0 0,.bool false,.string ByteArray.empty,.string ByteArray.empty,.int .u64 0,.int .i64 0,.slice none 0 0,.string ByteArray.empty,.slice none 0 0],[(0,1),(1,1)]):=by kernel_rfl
theorem aDP:aJ Tryz.prog 75=true:=by kernel_rfl
theorem aDQ:aJ Tryz.prog 76=true:=by kernel_rfl
theorem aLw:cX Tryz.prog 27 [0,4]=some ([.int .u8 0,.int .i64 0,.slice none 0 0,.bool false,.string ByteArray.empty,.string ByteArray.empty,.int .u64 0,.int .i64 0,.slice none 0 0,.string ByteArray.empty,.slice none 0 0],[(0,1),(4,1)]):=by kernel_rfl
theorem aGi:aJ Tryz.prog 77=true:=by kernel_rfl
theorem aC8:cX Tryz.prog 27 [0]=some ([.int .u8 0,.int .i64 0,.slice none 0 0,.bool false,.string ByteArray.empty,.string ByteArray.empty,.int .u64 0,.int .i64 0,.slice none 0 0,.string ByteArray.empty,.slice none 0 0],[(0,1)]):=by kernel_rfl
theorem aWb:cX Tryz.prog 27 [0,6]=some ([.int .u8 0,.int .i64 0,.slice none 0 0,.bool false,.string ByteArray.empty,.string ByteArray.empty,.int .u64 0,.int .i64 0,.slice none 0 0,.string ByteArray.empty,.slice none 0 0],[(0,1),(6,1)]):=by kernel_rfl
theorem aF1:cX Tryz.prog 27 [0,7]=some ([.int .u8 0,.int .i64 0,.slice none 0 0,.bool false,.string ByteArray.empty,.string ByteArray.empty,.int .u64 0,.int .i64 0,.slice none 0 0,.string ByteArray.empty,.slice none 0 0],[(0,1),(7,1)]):=by kernel_rfl
theorem aLx:cX Tryz.prog 27 [0,9]=some ([.int .u8 0,.int .i64 0,.slice none 0 0,.bool false,.string ByteArray.empty,.string ByteArray.empty,.int .u64 0,.int .i64 0,.slice none 0 0,.string ByteArray.empty,.slice none 0 0],[(0,1),(9,1)]):=by kernel_rfl
theorem aTR (bl:Nat) (hL hA:Sh) (W:List (Nat×List UInt8)) (n:Nat) (l0:Ln) (G:PM) (hsL:SlR G 1 lQ hL (W.map gP)) (hsA:SlR G 1 fY hA (W.map wat)) (hR:RelS W n 0 none (.ok l0)) (hWl:W.length≤2000) (hWw:∀ q∈W,q.2.length≤1000):Ct Tryz.prog 41 ([.pointer (some ⟨bl,0,none⟩)]:List Value).toArray G [.blk bl (cl [hL.val W.length,hA.val W.length,.int .i64 ((0:Nat):Int),.int .i64 ((n:Nat):Int),.int .i64 (gG (none))] 102)] (fun G' μ' u=>∃ e hO hK hB I' B' r',RelS W n I' B' r'∧iR l0=fB r' (fun l=>cJ l e)∧μ'=[.blk bl (cl [hL.val W.length,hA.val W.length,.int .i64 ((I':Nat):Int),.int .i64 ((n:Nat):Int),.int .i64 (gG (B'))] 102)]∧u=.agg (EvD.cells e (hO.val e.ops.length) (hK.val e.keep.length) (hB.val e.bytes.length)).toArray∧SlR G' 3 Opn.cells hO e.ops∧SlR G' 1 fY hK e.keep∧SlR G' 1 aU hB (yb (aG e.bytes))):=by
 refine Ct.of Tryz.func41 rfl Tryz.ntmps41 rfl fun w0 hs0=>?_
 have hlx:(W.map gP).length=W.length:=List.length_map _
 have hla:(W.map wat).length=W.length:=List.length_map _
 refine .seq (aP rfl rfl ?_)
 refine al rfl iP ?_; intro b2
 refine .g (ka rfl (.inr rfl) tU (aB rfl aF) (bK aC) (sZ bl hL hA W n 0 none (.ok l0) _ hsL hsA hR hWl hWw) ?_)
 rintro _ G10 μ10 hG10 ⟨w0,I2,B2,r2,hst,hsl,rfl,rfl⟩
 have hI2:=hst.1.le
 have hc0:=(aIE l0).trans (hst.2.1 _ iS)
 have hsL:=hsL.mono hG10
 have hsA:=hsA.mono hG10
 refine .g (cs rfl .no (.u rfl) (.u rfl) rfl (.g (cD rfl (fun c1=>?_) (fun c1=>?_))))
 ·have c1k:=c1
  try simp only [aD,aE] at c1
  refine .seq (mR rfl rfl ?_)
  obtain rfl:w0=vT:=fJ (by assumption)
  have hc:=hc0.trans (lJ aEO)
  refine .p (ka rfl (.inr rfl) zJ (aB rfl aF) (bK .here) (yC bl hL hA W n I2 B2 r2 _ hsL hsA hst.1 hWl hWw) ?_)
  rintro _ G14 μ14 hG14 ⟨a7,I2,B2,r2,hst,rfl,rfl⟩
  have hI2:=hst.1.le
  have hc:=hc.trans (hst.2.1 _ _)
  have hsL:=hsL.mono hG14
  have hsA:=hsA.mono hG14
  refine bC rfl .no aWa (.cons (.u rfl) rfl (.cons (.u rfl) rfl .nil)) rfl ?_
  refine al rfl iP ?_; intro b3
  refine sw rfl (.u rfl) (.u rfl) rfl cN .here rfl (by first|exact dP rfl|exact EvD.one _ rfl rfl rfl|exact EvD.one _ hov rfl rfl|exact EvD.one _ rfl hov rfl) ?_
  refine .g (ka rfl (.inr rfl) tU (aB rfl aF) (bK aC) (sZ bl hL hA W n I2 B2 r2 _ hsL hsA hst.1 hWl hWw) ?_)
  rintro _ G17 μ17 hG17 ⟨how,I2,B2,r2,hst,hsl,rfl,rfl⟩
  have hI2:=hst.1.le
  have hc:=hc.trans (hst.2.1 _ _)
  have hsL:=hsL.mono hG17
  have hsA:=hsA.mono hG17
  refine .g (cs rfl .no (.u rfl) (.u rfl) rfl (mV rfl rfl (mv rfl (.t rfl rfl) (.u rfl) (cs rfl (.t rfl rfl) (.s rfl) (.u rfl) rfl (cW rfl .no (.u rfl) (.s rfl) (.nc ?_))))))
  refine Wk.jn (α:=Nat×Option Nat×Except Nat Ln) (fun gh=>[]) (fun gh=>[.blk bl (cl [hL.val W.length,hA.val W.length,.int .i64 ((gh.1:Nat):Int),.int .i64 ((n:Nat):Int),.int .i64 (gG (gh.2.1))] 102)]) (fun gh Gl=>(RelS W n gh.1 gh.2.1 gh.2.2)∧(gh.2.1=none→0<gh.1)∧(iR l0=fB gh.2.2 (fun l3=>aZ (eG l3) fun o l4=>aZ (fI l4) fun os l5=>cJ l5 { EvD.zero with kind:=1#8,client:=a7,ops:=(o :: os),sync:=decide (how=eP) }))) [(0,true,_),(2,true,_),(3,true,_),(4,true,_)] [_,_]
   (aA rfl (aA rfl (aA rfl (aA rfl eZ)))) (mS aC rfl (mS aC rfl mN)) ?_ ?_
  ·refine cD rfl (fun c2=>?_) (fun c2=>?_)
   ·have c2k:=c2
    try simp only [aD,aE] at c2
    refine .g (ka rfl (.inr rfl) wP (aB rfl aF) (bK .here) (uR bl hL hA W n I2 B2 _ hsL hsA hWl hWw hI2 hst.2.2.1) ?_)
    rintro _ G25 μ25 hG25 ⟨rfl,rfl⟩
    have hsL:=hsL.mono hG25
    have hsA:=hsA.mono hG25
    refine .nil (aT (I2,some (jR W I2 B2),.error (jR W I2 B2)) ?_ ?_ ?_ ?_ ?_)
    ·exact (aA rfl (aA rfl (aA rfl (aA rfl eZ))))
    ·exact (mS .here rfl (mS .here rfl (mS .here rfl mN)))
    ·exact jB _
    ·exact hG25
    refine ⟨?_,?_,?_⟩
    ·(try dsimp only)<;>(exact (hst.1.fail hst.2.2.1).1)
    ·(try dsimp only)<;>(intro h; cases h)
    (try dsimp only)<;>(exact hc.trans (aPy hst.1 hst.2.2.1 (aP0 c2k) _ _))
   have c2k:=c2
   try simp only [aD,aE] at c2
   refine .skip (aT (I2,B2,r2) ?_ ?_ ?_ ?_ ?_)
   ·exact (aA rfl (aA rfl (aA rfl (aA rfl eZ))))
   ·exact (mS .here rfl (mS .here rfl (mS .here rfl mN)))
   ·exact jB _
   ·exact fun _ _ h=>h
   refine ⟨?_,?_,?_⟩
   ·(try dsimp only)<;>(exact hst.1)
   ·(try dsimp only)<;>(exact hst.2.2.1)
   (try dsimp only)<;>(exact hc.trans (aPz (aP1 c2k) _))
  intro gh Gljc2 hGljc2 hFjc2
  obtain ⟨I3,B3,r3⟩:=gh; dsimp only at hFjc2 ⊢
  obtain ⟨hR3,h03,hc3⟩:=hFjc2
  have hsL:=hsL.mono hGljc2
  have hsA:=hsA.mono hGljc2
  refine .g (cs rfl .no (.u rfl) (.u rfl) rfl (fZ rfl zF rfl (s1 rfl (.u rfl) (.u rfl) rfl wQ aC (by first|decide | (show _<5; decide) | (show _<11; decide)) (rfl) ?_)))
  refine .nil (.code (.seq (mU 3 Opn.cells 71 ?_)))
  refine Wk.jn (α:=Value×Opn×Nat×Option Nat×Except Nat Ln) (fun gh=>[]) (fun gh=>[.blk bl (cl [hL.val W.length,hA.val W.length,.int .i64 ((gh.2.2.1:Nat):Int),.int .i64 ((n:Nat):Int),.int .i64 (gG (gh.2.2.2.1))] 102),.blk b3 (cl (EvD.cells { EvD.zero with kind:=1#8,client:=a7,sync:=decide (how=eP) } gh.1 (.slice none 0 0) (.slice none 0 0)) 27),rS 3 Opn.cells gh.1 71 [gh.2.1]]) (fun gh Gl=>(RelS W n gh.2.2.1 gh.2.2.2.1 gh.2.2.2.2)∧(gh.1.oneCell'=true)∧(iR l0=fB gh.2.2.2.2 (fun l4=>aZ (fI l4) fun os l5=>cJ l5 { EvD.zero with kind:=1#8,client:=a7,ops:=gh.2.1 :: os,sync:=decide (how=eP) }))) [(0,true,_),(2,true,_),(3,true,_)] [_]
   (aA rfl (aA rfl (aA rfl eZ))) (mS bG rfl mN) ?_ ?_
  ·refine eT ⟨true,false⟩ aY (by kernel_rfl) ?_
   refine Wp.one 0 (by kernel_rfl) ?_
   refine fZ rfl mD rfl (.nil (Wp.one 2 (by kernel_rfl) ?_))
   refine mV rfl rfl (.nil (Wp.b2 1 3 (by kernel_rfl) ?_ ?_))
   ·refine lO rfl lF rfl aC (by first|exact aK rfl|rfl) ?_
    refine .nil (Wp.b1 3 (by kernel_rfl) ?_)
    refine ka rfl (.inl rfl) aDP (aB rfl aF) (bK aM) (aCW bl hL hA W n I3 B3 r3 _ hsL hsA hR3 hWl hWw) ?_
    rintro _ G32 μ32 hG32 ⟨o,I2,B2,r2,hst,rfl,rfl⟩
    have hI2:=hst.1.le
    have hc:=hc3.trans (hst.2.1 _ _)
    have hsL:=hsL.mono hG32
    have hsA:=hsA.mono hG32
    refine .nil (Wp.b1 4 (by kernel_rfl) ?_)
    refine Go.Tan.b1 rfl gW nD (.u rfl) rfl rfl (by decide) ?_; intro b33
    refine .nil (Wp.b1 5 (by kernel_rfl) ?_)
    refine gZ (xs:=([]:List Opn)) (o) rfl gW nD rfl (.u rfl) (.u rfl) aM .here (rfl) (Opn.one _) (by first|omega|(simp<;>omega)) (by unfold maxLen; first|omega|(simp<;>omega)) ?_; intro v34 ov34
    refine .nil (Wp.one 6 (by kernel_rfl) ?_)
    refine fZ rfl mD rfl (.nil (Wp.b1 7 (by kernel_rfl) ?_))
    refine iM rfl (.u rfl) (.u rfl) .here zP bG (by first|decide | (show _<5; decide) | (show _<11; decide)) (rfl) ?_
    refine .nil (Wp.last (by kernel_rfl) ?_)
    refine aT (_,o,I2,B2,r2) (aA rfl (aA rfl (aA rfl eZ))) (mS bG rfl (mS .here (by rw [← fD how eP]; rfl) (mS .here rfl (mS aC rfl mN)))) ?_ ?_ ?_
    ·exact jB _
    ·exact hG32
    refine ⟨?_,?_,?_⟩
    ·(try dsimp only)<;>(exact hst.1)
    ·(try dsimp only)<;>(assumption)
    (try dsimp only)<;>(exact hc)
   refine ka rfl (.inl rfl) aDP (aB rfl aF) (bK aM) (aCW bl hL hA W n I3 B3 r3 _ hsL hsA hR3 hWl hWw) ?_
   rintro _ G32 μ32 hG32 ⟨o,I2,B2,r2,hst,rfl,rfl⟩
   have hI2:=hst.1.le
   have hc:=hc3.trans (hst.2.1 _ _)
   have hsL:=hsL.mono hG32
   have hsA:=hsA.mono hG32
   refine .nil (Wp.one 1 (by kernel_rfl) ?_)
   refine lO rfl lF rfl aM (by first|exact aK rfl|rfl) ?_
   refine .nil (Wp.b1 4 (by kernel_rfl) ?_)
   refine Go.Tan.b1 rfl gW nD (.u rfl) rfl rfl (by decide) ?_; intro b33
   refine .nil (Wp.b1 5 (by kernel_rfl) ?_)
   refine gZ (xs:=([]:List Opn)) (o) rfl gW nD rfl (.u rfl) (.u rfl) aM .here (rfl) (Opn.one _) (by first|omega|(simp<;>omega)) (by unfold maxLen; first|omega|(simp<;>omega)) ?_; intro v34 ov34
   refine .nil (Wp.one 6 (by kernel_rfl) ?_)
   refine fZ rfl mD rfl (.nil (Wp.b1 7 (by kernel_rfl) ?_))
   refine iM rfl (.u rfl) (.u rfl) .here zP bG (by first|decide | (show _<5; decide) | (show _<11; decide)) (rfl) ?_
   refine .nil (Wp.last (by kernel_rfl) ?_)
   refine aT (_,o,I2,B2,r2) (aA rfl (aA rfl (aA rfl eZ))) (mS bG rfl (mS .here (by rw [← fD how eP]; rfl) (mS .here rfl (mS aC rfl mN)))) ?_ ?_ ?_
   ·exact jB _
   ·exact hG32
   refine ⟨?_,?_,?_⟩
   ·(try dsimp only)<;>(exact hst.1)
   ·(try dsimp only)<;>(assumption)
   (try dsimp only)<;>(exact hc)
  intro gh Glj8 hGlj8 hFj8
  obtain ⟨v,o,I5,B5,r5⟩:=gh; dsimp only at hFj8 ⊢
  obtain ⟨hR5,ov5,hc5⟩:=hFj8
  have hsL:=hsL.mono hGlj8
  have hsA:=hsA.mono hGlj8
  refine .code (.seq (.block ?_))
  refine aV (α:=Value×List Opn×Nat×Option Nat×Except Nat Ln) (fun _=>[]) (fun gh=>[.blk bl (cl [hL.val W.length,hA.val W.length,.int .i64 ((gh.2.2.1:Nat):Int),.int .i64 ((n:Nat):Int),.int .i64 (gG (gh.2.2.2.1))] 102),.blk b3 (cl (EvD.cells { EvD.zero with kind:=1#8,client:=a7,sync:=decide (how=eP) } gh.1 (.slice none 0 0) (.slice none 0 0)) 27),rS 3 Opn.cells gh.1 71 gh.2.1])
   (fun gh Gl=>(RelS W n gh.2.2.1 gh.2.2.2.1 gh.2.2.2.2)∧(gh.2.1.length≤gh.2.2.1+1)∧(gh.1.oneCell'=true)∧(iR l0=fB gh.2.2.2.2 (fun l=>aZ (dL gh.2.1 (fI l)) (fun qs l5=>cJ l5 { EvD.zero with kind:=1#8,client:=a7,ops:=qs,sync:=decide (how=eP) })))) (fun gh=>W.length-gh.2.2.1) (v,[o],I5,B5,r5) [(0,true,_),(2,true,_),(3,true,_)] [_]
   (aA rfl (aA rfl (aA rfl eZ)))
   (mS .here rfl (mS .here rfl (mS .here rfl (mS .here rfl mN)))) ?_ ?_
  ·refine ⟨?_,?_,?_,?_⟩
   ·(try dsimp only)<;>(exact hR5)
   ·(try dsimp only)<;>(simp)
   ·(try dsimp only)<;>(exact ov5)
   (try dsimp only)<;>(exact hc5.trans (aSj o r5 (fun qs l5=>cJ l5 { EvD.zero with kind:=1#8,client:=a7,ops:=qs,sync:=decide (how=eP) })))
  intro gh N0 Gl0 hN0 hGl0 hF0
  obtain ⟨v,os,I4,B4,r4⟩:=gh; dsimp only at hF0 hN0 ⊢
  obtain ⟨hR4,hos,hov,hc4⟩:=hF0
  have hsL:=hsL.mono hGl0
  have hsA:=hsA.mono hGl0
  refine .g (bZ (mc:=⟨false,false⟩) [0,1,2,3,4,5,6,7,8,9] aY (by kernel_rfl) ?_)
  refine .p (nC rfl rfl (fZ rfl nZ rfl (lO rfl bA rfl .here (by first|exact aK rfl|rfl) ?_)))
  refine .p (nC rfl rfl (fZ rfl wE rfl (lO rfl tL rfl .here (by first|exact aK rfl|rfl) ?_)))
  refine lE rfl tX rfl (cP rfl rfl rfl rfl (.g (cD rfl (fun c3=>?_) (fun c3=>?_))))
  ·have c3k:=c3
   have c4:I4<W.length:=by have:=of_decide_eq_true c3; omega
   refine .skip (.code (.block (eT ⟨true,false⟩ aY (by kernel_rfl) ?_)))
   refine Wp.one 0 (by kernel_rfl) ?_
   refine fZ rfl mD rfl (.nil (Wp.one 2 (by kernel_rfl) ?_))
   refine mV rfl rfl (.nil (Wp.b2 1 3 (by kernel_rfl) ?_ ?_))
   ·refine lO rfl lF rfl aC (by first|exact aK rfl|rfl) ?_
    refine .nil (Wp.b1 3 (by kernel_rfl) ?_)
    refine ka rfl (.inl rfl) aDP (aB rfl aF) (bK .here) (aCW bl hL hA W n I4 B4 r4 _ hsL hsA hR4 hWl hWw) ?_
    rintro _ G49 μ49 hG49 ⟨o2,I2,B2,r2,hst,rfl,rfl⟩
    have hI2:=hst.1.le
    have hgo:=(hc4.trans (hR4.opsS c4 _ _)).trans (hst.2.1 _ _)
    have hI9:=hst.2.2.2 c4
    have hsL:=hsL.mono hG49
    have hsA:=hsA.mono hG49
    refine .nil (Wp.b1 4 (by kernel_rfl) ?_)
    refine Go.Tan.b1 rfl gW nD (.u rfl) rfl rfl (by decide) ?_; intro b50
    refine .nil (Wp.b1 5 (by kernel_rfl) ?_)
    refine gZ (xs:=os) (o2) rfl gW nD rfl (.u rfl) (.u rfl) bG .here (rfl) (Opn.one _) (by first|omega|(simp<;>omega)) (by unfold maxLen; first|omega|(simp<;>omega)) ?_; intro v51 ov51
    refine .nil (Wp.one 6 (by kernel_rfl) ?_)
    refine fZ rfl mD rfl (.nil (Wp.b1 7 (by kernel_rfl) ?_))
    refine iM rfl (.u rfl) (.u rfl) .here zP bG (by first|decide | (show _<5; decide) | (show _<11; decide)) (rfl) ?_
    refine .nil (Wp.last (by kernel_rfl) ?_)
    refine .blk (aT (_,os++[o2],I2,B2,r2) (aA rfl (aA rfl (aA rfl eZ))) (mS bG rfl (mS .here rfl (mS .here rfl (mS aC rfl mN)))) ?_ ?_ ?_)
    ·first|omega|(dsimp only; omega)
    ·exact (hGl0).trans hG49
    refine ⟨?_,?_,?_,?_⟩
    ·(try dsimp only)<;>(exact hst.1)
    ·(try dsimp only)<;>(simp; omega)
    ·(try dsimp only)<;>(assumption)
    (try dsimp only)<;>(exact hgo)
   refine ka rfl (.inl rfl) aDP (aB rfl aF) (bK .here) (aCW bl hL hA W n I4 B4 r4 _ hsL hsA hR4 hWl hWw) ?_
   rintro _ G49 μ49 hG49 ⟨o2,I2,B2,r2,hst,rfl,rfl⟩
   have hI2:=hst.1.le
   have hgo:=(hc4.trans (hR4.opsS c4 _ _)).trans (hst.2.1 _ _)
   have hI9:=hst.2.2.2 c4
   have hsL:=hsL.mono hG49
   have hsA:=hsA.mono hG49
   refine .nil (Wp.one 1 (by kernel_rfl) ?_)
   refine lO rfl lF rfl aC (by first|exact aK rfl|rfl) ?_
   refine .nil (Wp.b1 4 (by kernel_rfl) ?_)
   refine Go.Tan.b1 rfl gW nD (.u rfl) rfl rfl (by decide) ?_; intro b50
   refine .nil (Wp.b1 5 (by kernel_rfl) ?_)
   refine gZ (xs:=os) (o2) rfl gW nD rfl (.u rfl) (.u rfl) bG .here (rfl) (Opn.one _) (by first|omega|(simp<;>omega)) (by unfold maxLen; first|omega|(simp<;>omega)) ?_; intro v51 ov51
   refine .nil (Wp.one 6 (by kernel_rfl) ?_)
   refine fZ rfl mD rfl (.nil (Wp.b1 7 (by kernel_rfl) ?_))
   refine iM rfl (.u rfl) (.u rfl) .here zP bG (by first|decide | (show _<5; decide) | (show _<11; decide)) (rfl) ?_
   refine .nil (Wp.last (by kernel_rfl) ?_)
   refine .blk (aT (_,os++[o2],I2,B2,r2) (aA rfl (aA rfl (aA rfl eZ))) (mS bG rfl (mS .here rfl (mS .here rfl (mS aC rfl mN)))) ?_ ?_ ?_)
   ·first|omega|(dsimp only; omega)
   ·exact (hGl0).trans hG49
   refine ⟨?_,?_,?_,?_⟩
   ·(try dsimp only)<;>(exact hst.1)
   ·(try dsimp only)<;>(simp; omega)
   ·(try dsimp only)<;>(assumption)
   (try dsimp only)<;>(exact hgo)
  have c3k:=c3
  have c4:¬ I4<W.length:=by have:=of_decide_eq_false c3; omega
  refine .g (lB rfl bU rfl aC ?_)
  refine sw rfl (.u rfl) (.u rfl) rfl cN bG rfl (by first|exact dP rfl|exact EvD.one _ rfl rfl rfl|exact EvD.one _ hov rfl rfl|exact EvD.one _ rfl hov rfl) ?_
  refine .nil (.code (.ret ?_))
  refine oQ bG (fun _ _=>rfl) (cM aC rfl (jH)) ?_; intro GfRO hRO hleRO evRO hsRO; subst evRO
  have hsL:=hsL.mono hleRO
  have hsA:=hsA.mono hleRO
  refine We.fin Tryz.results41 (.cell rfl (fun w hw=>bE bU (RdN.own .here) (rfl) hw) .nil) (mS aC rfl mN) ?_
  exact ⟨_,hRO,⟨none,0⟩,⟨none,0⟩,I4,B4,r4,hR4,hc4.trans (hR4.opsE c4 _ _),rfl,rfl,hsRO,SlR.nul,dM⟩
 have c1k:=c1
 try simp only [aD,aE] at c1
 refine .g (cs rfl .no (.u rfl) (.u rfl) rfl (.g (cD rfl (fun c4=>?_) (fun c4=>?_))))
 ·have c4k:=c4
  try simp only [aD,aE] at c4
  refine .seq (mR rfl rfl ?_)
  obtain rfl:w0=vJ:=fJ (by assumption)
  have hc:=hc0.trans (lJ aEF)
  refine .p (ka rfl (.inr rfl) aDQ (aB rfl aF) (bK .here) (aCX bl hL hA W n I2 B2 r2 _ hsL hsA hst.1 hWl hWw) ?_)
  rintro _ G57 μ57 hG57 ⟨a7,I2,B2,r2,hst,hsl,rfl,rfl⟩
  have hI2:=hst.1.le
  have hc:=hc.trans (hst.2.1 _ _)
  have hsL:=hsL.mono hG57
  have hsA:=hsA.mono hG57
  refine bC rfl .no aLw (.cons (.u rfl) rfl (.cons (.u rfl) rfl .nil)) rfl ?_
  refine al rfl iP ?_; intro b5
  refine sw rfl (.u rfl) (.u rfl) rfl cN .here rfl (by first|exact dP rfl|exact EvD.one _ rfl rfl rfl|exact EvD.one _ hov rfl rfl|exact EvD.one _ rfl hov rfl) ?_
  refine .g (ka rfl (.inr rfl) aGi (aB rfl aF) (bK aC) (aE9 bl hL hA W n I2 B2 r2 _ hsL hsA hst.1 hWl hWw) ?_)
  rintro _ G60 μ60 hG60 ⟨m7,I2,B2,r2,hst,rfl,rfl⟩
  have hI2:=hst.1.le
  have hc:=hc.trans (hst.2.1 _ _)
  have hsL:=hsL.mono hG60
  have hsA:=hsA.mono hG60
  refine fZ rfl tQ rfl (s1 rfl (.u rfl) (.u rfl) rfl pA aC (by first|decide | (show _<5; decide) | (show _<11; decide)) (rfl) ?_)
  refine .g (lB rfl bU rfl .here ?_)
  refine sw rfl (.u rfl) (.u rfl) rfl cN aM rfl (by first|exact dP rfl|exact EvD.one _ rfl rfl rfl|exact EvD.one _ hov rfl rfl|exact EvD.one _ rfl hov rfl) ?_
  refine .nil (.code (.ret (We.fin Tryz.results41 (.cell rfl (fun w hw=>bE bU (RdN.own .here) (rfl) hw) .nil) (mS aM rfl mN) ?_)))
  exact ⟨_,⟨none,0⟩,⟨none,0⟩,⟨none,0⟩,I2,B2,r2,hst.1,hc,rfl,rfl,SlR.nul,SlR.nul,dM⟩
 have c4k:=c4
 try simp only [aD,aE] at c4
 refine .g (cs rfl .no (.u rfl) (.u rfl) rfl (.g (cD rfl (fun c5=>?_) (fun c5=>?_))))
 ·have c5k:=c5
  try simp only [aD,aE] at c5
  refine .seq (mR rfl rfl ?_)
  obtain rfl:w0=vR:=fJ (by assumption)
  have hc:=hc0.trans (lJ aEN)
  refine .p (ka rfl (.inr rfl) aDQ (aB rfl aF) (bK .here) (aCX bl hL hA W n I2 B2 r2 _ hsL hsA hst.1 hWl hWw) ?_)
  rintro _ G66 μ66 hG66 ⟨a7,I2,B2,r2,hst,hsl,rfl,rfl⟩
  have hI2:=hst.1.le
  have hc:=hc.trans (hst.2.1 _ _)
  have hsL:=hsL.mono hG66
  have hsA:=hsA.mono hG66
  refine bC rfl .no aLw (.cons (.u rfl) rfl (.cons (.u rfl) rfl .nil)) rfl ?_
  refine al rfl iP ?_; intro b6
  refine sw rfl (.u rfl) (.u rfl) rfl cN .here rfl (by first|exact dP rfl|exact EvD.one _ rfl rfl rfl|exact EvD.one _ hov rfl rfl|exact EvD.one _ rfl hov rfl) ?_
  refine .g (ka rfl (.inr rfl) aDQ (aB rfl aF) (bK aC) (aCX bl hL hA W n I2 B2 r2 _ hsL hsA hst.1 hWl hWw) ?_)
  rintro _ G69 μ69 hG69 ⟨b7,I2,B2,r2,hst,hsl,rfl,rfl⟩
  have hI2:=hst.1.le
  have hc:=hc.trans (hst.2.1 _ _)
  have hsL:=hsL.mono hG69
  have hsA:=hsA.mono hG69
  refine fZ rfl aDG rfl (s1 rfl (.u rfl) (.u rfl) rfl rR aC (by first|decide | (show _<5; decide) | (show _<11; decide)) (rfl) ?_)
  refine .g (ka rfl (.inr rfl) aGi (aB rfl aF) (bK aC) (aE9 bl hL hA W n I2 B2 r2 _ hsL hsA hst.1 hWl hWw) ?_)
  rintro _ G72 μ72 hG72 ⟨m7,I2,B2,r2,hst,rfl,rfl⟩
  have hI2:=hst.1.le
  have hc:=hc.trans (hst.2.1 _ _)
  have hsL:=hsL.mono hG72
  have hsA:=hsA.mono hG72
  refine fZ rfl tQ rfl (s1 rfl (.u rfl) (.u rfl) rfl pA aC (by first|decide | (show _<5; decide) | (show _<11; decide)) (rfl) ?_)
  refine .g (lB rfl bU rfl .here ?_)
  refine sw rfl (.u rfl) (.u rfl) rfl cN aM rfl (by first|exact dP rfl|exact EvD.one _ rfl rfl rfl|exact EvD.one _ hov rfl rfl|exact EvD.one _ rfl hov rfl) ?_
  refine .nil (.code (.ret (We.fin Tryz.results41 (.cell rfl (fun w hw=>bE bU (RdN.own .here) (rfl) hw) .nil) (mS aM rfl mN) ?_)))
  exact ⟨_,⟨none,0⟩,⟨none,0⟩,⟨none,0⟩,I2,B2,r2,hst.1,hc,rfl,rfl,SlR.nul,SlR.nul,dM⟩
 have c5k:=c5
 try simp only [aD,aE] at c5
 refine .g (cs rfl .no (.u rfl) (.u rfl) rfl (.g (cD rfl (fun c6=>?_) (fun c6=>?_))))
 ·have c6k:=c6
  try simp only [aD,aE] at c6
  refine .seq (bF rfl rfl ?_)
  obtain rfl:w0=vK:=fJ (by assumption)
  have hc:=hc0.trans (lJ aEG)
  refine bC rfl .no aC8 (.cons (.u rfl) rfl .nil) rfl ?_
  refine sw rfl (.u rfl) (.u rfl) rfl cN aC rfl (by first|exact dP rfl|exact EvD.one _ rfl rfl rfl|exact EvD.one _ hov rfl rfl|exact EvD.one _ rfl hov rfl) ?_
  refine .nil (.code (.ret (We.fin Tryz.results41 (.cell rfl (fun w hw=>bE bU (RdN.own .here) (rfl) hw) .nil) (mS aC rfl mN) ?_)))
  exact ⟨_,⟨none,0⟩,⟨none,0⟩,⟨none,0⟩,I2,B2,r2,hst.1,hc,rfl,rfl,SlR.nul,SlR.nul,dM⟩
 have c6k:=c6
 try simp only [aD,aE] at c6
 refine .g (cs rfl .no (.u rfl) (.u rfl) rfl (.g (cD rfl (fun c7=>?_) (fun c7=>?_))))
 ·have c7k:=c7
  try simp only [aD,aE] at c7
  refine .seq (dI rfl rfl ?_)
  obtain rfl:w0=vN:=fJ (by assumption)
  have hc:=hc0.trans (lJ aEI)
  refine .p (ka rfl (.inr rfl) aGi (aB rfl aF) (bK .here) (aE9 bl hL hA W n I2 B2 r2 _ hsL hsA hst.1 hWl hWw) ?_)
  rintro _ G81 μ81 hG81 ⟨m7,I2,B2,r2,hst,rfl,rfl⟩
  have hI2:=hst.1.le
  have hc:=hc.trans (hst.2.1 _ _)
  have hsL:=hsL.mono hG81
  have hsA:=hsA.mono hG81
  refine bC rfl .no aWb (.cons (.u rfl) rfl (.cons (.u rfl) rfl .nil)) rfl ?_
  refine sw rfl (.u rfl) (.u rfl) rfl cN aC rfl (by first|exact dP rfl|exact EvD.one _ rfl rfl rfl|exact EvD.one _ hov rfl rfl|exact EvD.one _ rfl hov rfl) ?_
  refine .nil (.code (.ret (We.fin Tryz.results41 (.cell rfl (fun w hw=>bE bU (RdN.own .here) (rfl) hw) .nil) (mS aC rfl mN) ?_)))
  exact ⟨_,⟨none,0⟩,⟨none,0⟩,⟨none,0⟩,I2,B2,r2,hst.1,hc,rfl,rfl,SlR.nul,SlR.nul,dM⟩
 have c7k:=c7
 try simp only [aD,aE] at c7
 refine .g (cs rfl .no (.u rfl) (.u rfl) rfl (.g (cD rfl (fun c8=>?_) (fun c8=>?_))))
 ·have c8k:=c8
  try simp only [aD,aE] at c8
  refine .seq (dI rfl rfl ?_)
  obtain rfl:w0=vP:=fJ (by assumption)
  have hc:=hc0.trans (lJ aEL)
  refine .p (ka rfl (.inr rfl) zJ (aB rfl aF) (bK .here) (yC bl hL hA W n I2 B2 r2 _ hsL hsA hst.1 hWl hWw) ?_)
  rintro _ G86 μ86 hG86 ⟨a7,I2,B2,r2,hst,rfl,rfl⟩
  have hI2:=hst.1.le
  have hc:=hc.trans (hst.2.1 _ _)
  have hsL:=hsL.mono hG86
  have hsA:=hsA.mono hG86
  refine bC rfl .no aF1 (.cons (.u rfl) rfl (.cons (.u rfl) rfl .nil)) rfl ?_
  refine sw rfl (.u rfl) (.u rfl) rfl cN aC rfl (by first|exact dP rfl|exact EvD.one _ rfl rfl rfl|exact EvD.one _ hov rfl rfl|exact EvD.one _ rfl hov rfl) ?_
  refine .nil (.code (.ret (We.fin Tryz.results41 (.cell rfl (fun w hw=>bE bU (RdN.own .here) (rfl) hw) .nil) (mS aC rfl mN) ?_)))
  exact ⟨_,⟨none,0⟩,⟨none,0⟩,⟨none,0⟩,I2,B2,r2,hst.1,hc,rfl,rfl,SlR.nul,SlR.nul,dM⟩
 have c8k:=c8
 try simp only [aD,aE] at c8
 refine .g (cs rfl .no (.u rfl) (.u rfl) rfl (.g (cD rfl (fun c9=>?_) (fun c9=>?_))))
 ·have c9k:=c9
  try simp only [aD,aE] at c9
  refine .seq (dI rfl rfl ?_)
  obtain rfl:w0=vQ:=fJ (by assumption)
  have hc:=hc0.trans (lJ aEM)
  refine .p (ka rfl (.inr rfl) zJ (aB rfl aF) (bK .here) (yC bl hL hA W n I2 B2 r2 _ hsL hsA hst.1 hWl hWw) ?_)
  rintro _ G91 μ91 hG91 ⟨a7,I2,B2,r2,hst,rfl,rfl⟩
  have hI2:=hst.1.le
  have hc:=hc.trans (hst.2.1 _ _)
  have hsL:=hsL.mono hG91
  have hsA:=hsA.mono hG91
  refine bC rfl .no aF1 (.cons (.u rfl) rfl (.cons (.u rfl) rfl .nil)) rfl ?_
  refine sw rfl (.u rfl) (.u rfl) rfl cN aC rfl (by first|exact dP rfl|exact EvD.one _ rfl rfl rfl|exact EvD.one _ hov rfl rfl|exact EvD.one _ rfl hov rfl) ?_
  refine .nil (.code (.ret (We.fin Tryz.results41 (.cell rfl (fun w hw=>bE bU (RdN.own .here) (rfl) hw) .nil) (mS aC rfl mN) ?_)))
  exact ⟨_,⟨none,0⟩,⟨none,0⟩,⟨none,0⟩,I2,B2,r2,hst.1,hc,rfl,rfl,SlR.nul,SlR.nul,dM⟩
 have c9k:=c9
 try simp only [aD,aE] at c9
 refine .g (cs rfl .no (.u rfl) (.u rfl) rfl (.g (cD rfl (fun c10=>?_) (fun c10=>?_))))
 ·have c10k:=c10
  try simp only [aD,aE] at c10
  refine .seq (dI rfl rfl ?_)
  obtain rfl:w0=vH:=fJ (by assumption)
  have hc:=hc0.trans (lJ aED)
  refine .p (ka rfl (.inr rfl) zJ (aB rfl aF) (bK .here) (yC bl hL hA W n I2 B2 r2 _ hsL hsA hst.1 hWl hWw) ?_)
  rintro _ G96 μ96 hG96 ⟨a7,I2,B2,r2,hst,rfl,rfl⟩
  have hI2:=hst.1.le
  have hc:=hc.trans (hst.2.1 _ _)
  have hsL:=hsL.mono hG96
  have hsA:=hsA.mono hG96
  refine bC rfl .no aF1 (.cons (.u rfl) rfl (.cons (.u rfl) rfl .nil)) rfl ?_
  refine sw rfl (.u rfl) (.u rfl) rfl cN aC rfl (by first|exact dP rfl|exact EvD.one _ rfl rfl rfl|exact EvD.one _ hov rfl rfl|exact EvD.one _ rfl hov rfl) ?_
  refine .nil (.code (.ret (We.fin Tryz.results41 (.cell rfl (fun w hw=>bE bU (RdN.own .here) (rfl) hw) .nil) (mS aC rfl mN) ?_)))
  exact ⟨_,⟨none,0⟩,⟨none,0⟩,⟨none,0⟩,I2,B2,r2,hst.1,hc,rfl,rfl,SlR.nul,SlR.nul,dM⟩
 have c10k:=c10
 try simp only [aD,aE] at c10
 refine .g (cs rfl .no (.u rfl) (.u rfl) rfl (.g (cD rfl (fun c11=>?_) (fun c11=>?_))))
 ·have c11k:=c11
  try simp only [aD,aE] at c11
  refine .seq (dQ rfl rfl ?_)
  obtain rfl:w0=vG:=fJ (by assumption)
  have hc:=hc0.trans (lJ aEC)
  refine bC rfl .no aC8 (.cons (.u rfl) rfl .nil) rfl ?_
  refine al rfl iP ?_; intro b7
  refine sw rfl (.u rfl) (.u rfl) rfl cN .here rfl (by first|exact dP rfl|exact EvD.one _ rfl rfl rfl|exact EvD.one _ hov rfl rfl|exact EvD.one _ rfl hov rfl) ?_
  refine .nil (.code (.seq (.block (mU 1 fY 3 ?_))))
  refine aV (α:=Value×List Int×Nat×Option Nat×Except Nat Ln) (fun _=>[]) (fun gh=>[rS 1 fY gh.1 3 gh.2.1,.blk b7 (cl (EvD.cells { EvD.zero with kind:=9#8 } (.slice none 0 0) gh.1 (.slice none 0 0)) 27),.blk bl (cl [hL.val W.length,hA.val W.length,.int .i64 ((gh.2.2.1:Nat):Int),.int .i64 ((n:Nat):Int),.int .i64 (gG (gh.2.2.2.1))] 102)])
   (fun gh Gl=>(RelS W n gh.2.2.1 gh.2.2.2.1 gh.2.2.2.2)∧(gh.2.1.length≤gh.2.2.1+1)∧(gh.1.oneCell'=true)∧(iR l0=fB gh.2.2.2.2 (fun l=>aZ (dL gh.2.1 (gA l)) (fun ns l2=>cJ l2 { EvD.zero with kind:=9#8,keep:=ns })))) (fun gh=>W.length-gh.2.2.1) (_,[],I2,B2,r2) [(0,true,_),(2,true,_),(7,true,_)] [_]
   (aA rfl (aA rfl (aA rfl eZ)))
   (mS .here rfl (mS .here rfl (mS .here rfl (mS .here rfl mN)))) ?_ ?_
  ·refine ⟨?_,?_,?_,?_⟩
   ·(try dsimp only)<;>(exact hst.1)
   ·(try dsimp only)<;>(simp)
   ·(try dsimp only)<;>(rfl)
   (try dsimp only)<;>(exact hc.trans (aSB r2 _))
  intro gh N1 Gl1 hN1 hGl1 hF1
  obtain ⟨v,os,I4,B4,r4⟩:=gh; dsimp only at hF1 hN1 ⊢
  obtain ⟨hR4,hos,hov,hc4⟩:=hF1
  have hsL:=hsL.mono hGl1
  have hsA:=hsA.mono hGl1
  refine .g (bZ (mc:=⟨false,false⟩) [0,1,2,3,4,5,6,7,8,9] aY (by kernel_rfl) ?_)
  refine .p (nC rfl rfl (fZ rfl nZ rfl (lO rfl bA rfl aM (by first|exact aK rfl|rfl) ?_)))
  refine .p (nC rfl rfl (fZ rfl wE rfl (lO rfl tL rfl aM (by first|exact aK rfl|rfl) ?_)))
  refine lE rfl tX rfl (cP rfl rfl rfl rfl (.g (cD rfl (fun c12=>?_) (fun c12=>?_))))
  ·have c12k:=c12
   have c4:I4<W.length:=by have:=of_decide_eq_true c12; omega
   refine .skip (.code (.block (eT ⟨true,false⟩ aY (by kernel_rfl) ?_)))
   refine Wp.one 0 (by kernel_rfl) ?_
   refine fZ rfl pY rfl (.nil (Wp.one 2 (by kernel_rfl) ?_))
   refine mV rfl rfl (.nil (Wp.b2 1 3 (by kernel_rfl) ?_ ?_))
   ·refine lO rfl qF rfl aC (by first|exact aK rfl|rfl) ?_
    refine .nil (Wp.b1 3 (by kernel_rfl) ?_)
    refine ka rfl (.inl rfl) zJ (aB rfl aF) (bK aM) (yC bl hL hA W n I4 B4 r4 _ hsL hsA hR4 hWl hWw) ?_
    rintro _ G114 μ114 hG114 ⟨o2,I2,B2,r2,hst,rfl,rfl⟩
    have hI2:=hst.1.le
    have hgo:=(hc4.trans (hR4.numsS c4 _ _)).trans (hst.2.1 _ _)
    have hI9:=hst.2.2.2 c4
    have hsL:=hsL.mono hG114
    have hsA:=hsA.mono hG114
    refine .nil (Wp.b1 4 (by kernel_rfl) ?_)
    refine Go.Tan.b1 rfl oF qD (.u rfl) rfl rfl (by decide) ?_; intro b115
    refine .nil (Wp.b1 5 (by kernel_rfl) ?_)
    refine gZ (xs:=os) (o2) rfl oF qD rfl (.u rfl) (.u rfl) aM .here (rfl) (one1 rfl) (by omega) (by unfold maxLen; omega) ?_; intro v116 ov116
    refine .nil (Wp.one 6 (by kernel_rfl) ?_)
    refine fZ rfl pY rfl (.nil (Wp.b1 7 (by kernel_rfl) ?_))
    refine iM rfl (.u rfl) (.u rfl) .here aGu bG (by first|decide | (show _<5; decide) | (show _<11; decide)) (rfl) ?_
    refine .nil (Wp.last (by kernel_rfl) ?_)
    refine .blk (aT (_,os++[o2],I2,B2,r2) (aA rfl (aA rfl (aA rfl eZ))) (mS aC rfl (mS .here rfl (mS aC rfl (mS aC rfl mN)))) ?_ ?_ ?_)
    ·first|omega|(dsimp only; omega)
    ·exact (hGl1).trans hG114
    refine ⟨?_,?_,?_,?_⟩
    ·(try dsimp only)<;>(exact hst.1)
    ·(try dsimp only)<;>(simp; omega)
    ·(try dsimp only)<;>(assumption)
    (try dsimp only)<;>(exact hgo)
   refine ka rfl (.inl rfl) zJ (aB rfl aF) (bK aM) (yC bl hL hA W n I4 B4 r4 _ hsL hsA hR4 hWl hWw) ?_
   rintro _ G114 μ114 hG114 ⟨o2,I2,B2,r2,hst,rfl,rfl⟩
   have hI2:=hst.1.le
   have hgo:=(hc4.trans (hR4.numsS c4 _ _)).trans (hst.2.1 _ _)
   have hI9:=hst.2.2.2 c4
   have hsL:=hsL.mono hG114
   have hsA:=hsA.mono hG114
   refine .nil (Wp.one 1 (by kernel_rfl) ?_)
   refine lO rfl qF rfl aM (by first|exact aK rfl|rfl) ?_
   refine .nil (Wp.b1 4 (by kernel_rfl) ?_)
   refine Go.Tan.b1 rfl oF qD (.u rfl) rfl rfl (by decide) ?_; intro b115
   refine .nil (Wp.b1 5 (by kernel_rfl) ?_)
   refine gZ (xs:=os) (o2) rfl oF qD rfl (.u rfl) (.u rfl) aM .here (rfl) (one1 rfl) (by omega) (by unfold maxLen; omega) ?_; intro v116 ov116
   refine .nil (Wp.one 6 (by kernel_rfl) ?_)
   refine fZ rfl pY rfl (.nil (Wp.b1 7 (by kernel_rfl) ?_))
   refine iM rfl (.u rfl) (.u rfl) .here aGu bG (by first|decide | (show _<5; decide) | (show _<11; decide)) (rfl) ?_
   refine .nil (Wp.last (by kernel_rfl) ?_)
   refine .blk (aT (_,os++[o2],I2,B2,r2) (aA rfl (aA rfl (aA rfl eZ))) (mS aC rfl (mS .here rfl (mS aC rfl (mS aC rfl mN)))) ?_ ?_ ?_)
   ·first|omega|(dsimp only; omega)
   ·exact (hGl1).trans hG114
   refine ⟨?_,?_,?_,?_⟩
   ·(try dsimp only)<;>(exact hst.1)
   ·(try dsimp only)<;>(simp; omega)
   ·(try dsimp only)<;>(assumption)
   (try dsimp only)<;>(exact hgo)
  have c12k:=c12
  have c4:¬ I4<W.length:=by have:=of_decide_eq_false c12; omega
  refine .g (lB rfl bU rfl aC ?_)
  refine sw rfl (.u rfl) (.u rfl) rfl cN bG rfl (by first|exact dP rfl|exact EvD.one _ rfl rfl rfl|exact EvD.one _ hov rfl rfl|exact EvD.one _ rfl hov rfl) ?_
  refine .nil (.code (.ret ?_))
  refine oQ aC (fun _ _=>rfl) (cM aM rfl (jH)) ?_; intro GfRK hRK hleRK evRK hsRK; subst evRK
  have hsL:=hsL.mono hleRK
  have hsA:=hsA.mono hleRK
  refine We.fin Tryz.results41 (.cell rfl (fun w hw=>bE bU (RdN.own .here) (rfl) hw) .nil) (mS aM rfl mN) ?_
  exact ⟨_,⟨none,0⟩,hRK,⟨none,0⟩,I4,B4,r4,hR4,hc4.trans (hR4.numsE c4 _ _),rfl,rfl,SlR.nul,hsRK,dM⟩
 have c11k:=c11
 try simp only [aD,aE] at c11
 refine .g (cs rfl .no (.u rfl) (.u rfl) rfl (.g (cD rfl (fun c13=>?_) (fun c13=>?_))))
 ·have c13k:=c13
  try simp only [aD,aE] at c13
  refine .seq (bF rfl rfl ?_)
  obtain rfl:w0=vO:=fJ (by assumption)
  have hc:=hc0.trans (lJ aEK)
  refine bC rfl .no aC8 (.cons (.u rfl) rfl .nil) rfl ?_
  refine sw rfl (.u rfl) (.u rfl) rfl cN aC rfl (by first|exact dP rfl|exact EvD.one _ rfl rfl rfl|exact EvD.one _ hov rfl rfl|exact EvD.one _ rfl hov rfl) ?_
  refine .nil (.code (.ret (We.fin Tryz.results41 (.cell rfl (fun w hw=>bE bU (RdN.own .here) (rfl) hw) .nil) (mS aC rfl mN) ?_)))
  exact ⟨_,⟨none,0⟩,⟨none,0⟩,⟨none,0⟩,I2,B2,r2,hst.1,hc,rfl,rfl,SlR.nul,SlR.nul,dM⟩
 have c13k:=c13
 try simp only [aD,aE] at c13
 refine .g (cs rfl .no (.u rfl) (.u rfl) rfl (.g (cD rfl (fun c14=>?_) (fun c14=>?_))))
 ·have c14k:=c14
  try simp only [aD,aE] at c14
  refine .seq (bF rfl rfl ?_)
  obtain rfl:w0=vF:=fJ (by assumption)
  have hc:=hc0.trans (lJ aEB)
  refine bC rfl .no aC8 (.cons (.u rfl) rfl .nil) rfl ?_
  refine sw rfl (.u rfl) (.u rfl) rfl cN aC rfl (by first|exact dP rfl|exact EvD.one _ rfl rfl rfl|exact EvD.one _ hov rfl rfl|exact EvD.one _ rfl hov rfl) ?_
  refine .nil (.code (.ret (We.fin Tryz.results41 (.cell rfl (fun w hw=>bE bU (RdN.own .here) (rfl) hw) .nil) (mS aC rfl mN) ?_)))
  exact ⟨_,⟨none,0⟩,⟨none,0⟩,⟨none,0⟩,I2,B2,r2,hst.1,hc,rfl,rfl,SlR.nul,SlR.nul,dM⟩
 have c14k:=c14
 try simp only [aD,aE] at c14
 refine .g (cs rfl .no (.u rfl) (.u rfl) rfl (.g (cD rfl (fun c15=>?_) (fun c15=>?_))))
 ·have c15k:=c15
  try simp only [aD,aE] at c15
  refine .seq (mR rfl rfl ?_)
  obtain rfl:w0=vM:=fJ (by assumption)
  have hc:=hc0.trans (lJ aEH)
  refine .p (ka rfl (.inr rfl) tU (aB rfl aF) (bK .here) (sZ bl hL hA W n I2 B2 r2 _ hsL hsA hst.1 hWl hWw) ?_)
  rintro _ G128 μ128 hG128 ⟨a7,I2,B2,r2,hst,hsl,rfl,rfl⟩
  have hI2:=hst.1.le
  have hc:=hc.trans (hst.2.1 _ _)
  have hsL:=hsL.mono hG128
  have hsA:=hsA.mono hG128
  refine bC rfl .no aLx (.cons (.u rfl) rfl (.cons (.u rfl) rfl .nil)) rfl ?_
  refine al rfl iP ?_; intro b8
  refine sw rfl (.u rfl) (.u rfl) rfl cN .here rfl (by first|exact dP rfl|exact EvD.one _ rfl rfl rfl|exact EvD.one _ hov rfl rfl|exact EvD.one _ rfl hov rfl) ?_
  refine .g (ka rfl (.inr rfl) aDQ (aB rfl aF) (bK aC) (aCX bl hL hA W n I2 B2 r2 _ hsL hsA hst.1 hWl hWw) ?_)
  rintro _ G131 μ131 hG131 ⟨a7,I2,B2,r2,hst,hsl,rfl,rfl⟩
  have hI2:=hst.1.le
  have hc:=hc.trans (hst.2.1 _ _)
  have hsL:=hsL.mono hG131
  have hsA:=hsA.mono hG131
  refine cvS rfl rfl aGz (.u rfl) ?_; intro G132 h132 hG132 hs132
  have hsL:=hsL.mono hG132
  have hsA:=hsA.mono hG132
  refine fZ rfl aDF rfl (s1 rfl (.u rfl) (.u rfl) rfl rQ aC (by first|decide | (show _<5; decide) | (show _<11; decide)) (rfl) ?_)
  refine .g (lB rfl bU rfl .here ?_)
  refine sw rfl (.u rfl) (.u rfl) rfl cN aM rfl (by first|exact dP rfl|exact EvD.one _ rfl rfl rfl|exact EvD.one _ hov rfl rfl|exact EvD.one _ rfl hov rfl) ?_
  refine .nil (.code (.ret (We.fin Tryz.results41 (.cell rfl (fun w hw=>bE bU (RdN.own .here) (rfl) hw) .nil) (mS aM rfl mN) ?_)))
  exact ⟨_,⟨none,0⟩,⟨none,0⟩,h132,I2,B2,r2,hst.1,hc,rfl,(by rw [show (yb (aG a7)).length=a7.length from by rw [eQ]; rfl]; rfl),SlR.nul,SlR.nul,hs132⟩
 have c15k:=c15
 try simp only [aD,aE] at c15
 refine .g (cs rfl .no (.u rfl) (.u rfl) rfl (.g (cD rfl (fun c16=>?_) (fun c16=>?_))))
 ·have c16k:=c16
  try simp only [aD,aE] at c16
  refine .seq (dI rfl rfl ?_)
  obtain rfl:w0=vI:=fJ (by assumption)
  have hc:=hc0.trans (lJ aEE)
  refine .p (ka rfl (.inr rfl) tU (aB rfl aF) (bK .here) (sZ bl hL hA W n I2 B2 r2 _ hsL hsA hst.1 hWl hWw) ?_)
  rintro _ G138 μ138 hG138 ⟨a7,I2,B2,r2,hst,hsl,rfl,rfl⟩
  have hI2:=hst.1.le
  have hc:=hc.trans (hst.2.1 _ _)
  have hsL:=hsL.mono hG138
  have hsA:=hsA.mono hG138
  refine bC rfl .no aLx (.cons (.u rfl) rfl (.cons (.u rfl) rfl .nil)) rfl ?_
  refine sw rfl (.u rfl) (.u rfl) rfl cN aC rfl (by first|exact dP rfl|exact EvD.one _ rfl rfl rfl|exact EvD.one _ hov rfl rfl|exact EvD.one _ rfl hov rfl) ?_
  refine .nil (.code (.ret (We.fin Tryz.results41 (.cell rfl (fun w hw=>bE bU (RdN.own .here) (rfl) hw) .nil) (mS aC rfl mN) ?_)))
  exact ⟨_,⟨none,0⟩,⟨none,0⟩,⟨none,0⟩,I2,B2,r2,hst.1,hc,rfl,rfl,SlR.nul,SlR.nul,dM⟩
 have c16k:=c16
 try simp only [aD,aE] at c16
 refine .g (nC rfl rfl (fZ rfl nZ rfl (lO rfl bA rfl .here (by first|exact aK rfl|rfl) ?_)))
 refine cP rfl rfl rfl rfl (.g (cD rfl (fun c17=>?_) (fun c17=>?_)))
 ·have c17k:=c17
  try simp only [aD,aE] at c17
  refine .g (ka rfl (.inr rfl) wP (aB rfl aF) (bK .here) (uR bl hL hA W n I2 B2 _ hsL hsA hWl hWw hI2 hst.2.2.1) ?_)
  rintro _ G146 μ146 hG146 ⟨rfl,rfl⟩
  refine .g (bC rfl .no rU .nil rfl ?_)
  refine sw rfl (.u rfl) (.u rfl) rfl cN aC rfl (by first|exact dP rfl|exact EvD.one _ rfl rfl rfl|exact EvD.one _ hov rfl rfl|exact EvD.one _ rfl hov rfl) ?_
  refine .nil (.code (.ret (We.fin Tryz.results41 (.cell rfl (fun w hw=>bE bU (RdN.own .here) (rfl) hw) .nil) (mS aC rfl mN) ?_)))
  exact ⟨EvD.zero,⟨none,0⟩,⟨none,0⟩,⟨none,0⟩,I2,_,_,(hst.1.fail hst.2.2.1).1,(hc0.trans (lJ fun l1=>aEJ (fK (by assumption)) (fK (by assumption)) (fK (by assumption)) (fK (by assumption)) (fK (by assumption)) (fK (by assumption)) (fK (by assumption)) (fK (by assumption)) (fK (by assumption)) (fK (by assumption)) (fK (by assumption)) (fK (by assumption)) (fK (by assumption)))).trans ((hst.1.fail hst.2.2.1).2 _),rfl,rfl,SlR.nul,SlR.nul,dM⟩
 have c17k:=c17
 try simp only [aD,aE] at c17
 refine .g (bC rfl .no rU .nil rfl ?_)
 refine sw rfl (.u rfl) (.u rfl) rfl cN aC rfl (by first|exact dP rfl|exact EvD.one _ rfl rfl rfl|exact EvD.one _ hov rfl rfl|exact EvD.one _ rfl hov rfl) ?_
 refine .nil (.code (.ret (We.fin Tryz.results41 (.cell rfl (fun w hw=>bE bU (RdN.own .here) (rfl) hw) .nil) (mS aC rfl mN) ?_)))
 have hB2:¬ B2=none:=fun h=>by have:=hst.2.2.1 h; omega
 obtain ⟨b,rfl⟩:=Option.ne_none_iff_exists'.1 hB2
 have hr2:=hst.1.dead
 subst hr2
 exact ⟨EvD.zero,⟨none,0⟩,⟨none,0⟩,⟨none,0⟩,I2,some b,_,hst.1,hc0,rfl,rfl,SlR.nul,SlR.nul,dM⟩
end Go.Proofs.YtoifkgkandfeiaaGreatDoor
namespace Go.Proofs.YtoifkgkandfeiaaGreatDoor
open Go.Tan Go.RowKit Go.Maps Go.Sort Go.Shelf
theorem aDN:aJ Tryz.prog 37=true:=by kernel_rfl
theorem aJ0 (w:World) (a b c:Addr):CallsD Tryz.prog 37 #[.pointer (some a),.pointer (some b),.pointer (some c)] .returning w (fun e u' w'=>(∃ v,e=.returned v)∧u'=.returning∧w'=w):=by
 refine callsD_of_wpS Tryz.func37 rfl fun c₀ cs hu=>(wpS_seq (wpS_region ?_))
 have hr:recoverD (c₀ :: cs)=none:=by simp [recoverD,hu]
 rw [show Tryz.f37.ntmps=11 from rfl]
 simp only [wpOpsS,List.range,List.range.loop,Array.size,List.length,List.getElem?_toArray,List.getElem?_cons_zero,List.getElem?_cons_succ,Region.wanted,if_true]
 have e1:∀ (ρ:Operand→Value) (d:Option Nat) (t:TypeId) (p:String) (af:Array Edge),(execOp ρ ⟨d,.call { callee:=.builtin .recover,args:=#[],argTypes:=#[] },t,p,af,none⟩).run Tryz.prog w=.ok .recover w:=fun ρ d t p af=>by
  simp [execOp,resolve,invoke,builtin]
 simp only [e1,hr]
 simp [execOp,Oper.upon,Exit.thenS,Act.put,Act.eval]
 refine wpS_of_wp ?_
 have e2:(binOp .eql 20 .nilIface .nilIface).run Tryz.prog w=.ok (.bool true) w:=by
  have hu20:=aEf aG0
  obtain ⟨q,hq⟩:=hu20
  have e4:∀ d,(Op.equalIn (d+1) 20 .nilIface .nilIface).run Tryz.prog w=.ok true w:=fun d=>by
   unfold Op.equalIn
   simp only [Sem.run_bind,run_underlying hq,Result.andThen_ok,Sem.run_pure]
  obtain ⟨d,hd⟩ : ∃ d,Op.maxDepth=d+1:=Nat.exists_eq_succ_of_ne_zero (by decide)
  simp [binOp,Op.equal,hd,e4]
 have e3:(eqGuard .eql 20 (.tmp 5) (.const .nilIface) .nilIface .nilIface).run Tryz.prog w=.ok () w:=by unfold eqGuard; simp
 refine wp_seq_k fun K1 hK1=>wp_seq_k fun K2 hK2=>wp_region ?_
 simp [wpOps,Region.wanted,execOp,Oper.wp,Oper.upon,Exit.then,Act.put,Act.eval,List.range,List.range.loop,e2,e3]
 refine .inl (.inl (hK2 _ _ ?_))
 refine wp_cond_true ?_ ?_
 ·simp [Act.eval]
 refine wp_ret ?_
 refine ⟨rfl,.returning,by rw [← hu],.tuple #[],?_,⟨_,rfl⟩,rfl,rfl⟩
 simp [results,Tryz.f37]
end Go.Proofs.YtoifkgkandfeiaaGreatDoor
namespace Go.Proofs.YtoifkgkandfeiaaGreatDoor
open Go.Tan Go.RowKit Go.Maps Go.Sort Go.Shelf
theorem aL5:flP Tryz.prog 91 0=some 0:=by kernel_rfl
theorem aJz (w:World) (G:PM) (e:Nat) (es:List Value) (x y:Value) (be ba bc TE TI TC:Nat) (hs:Sat G [.blk be (cl es TE),.blk ba (cl [x] TI),.blk bc (cl [y] TC)] w) (hl:es.length=11):CallsD Tryz.prog 37 #[.pointer (some ⟨be,0,none⟩),.pointer (some ⟨ba,0,none⟩),.pointer (some ⟨bc,0,none⟩)] (.panicking [mW 91 e]) w (fun r u' w'=>(∃ v,r=.returned v)∧u'=.panicking [rI 91 e]∧Tr G (keys [.blk be (cl es TE),.blk ba (cl [x] TI),.blk bc (cl [y] TC)]) w G [.blk be (cl (EvD.cells EvD.zero (.slice none 0 0) (.slice none 0 0) (.slice none 0 0)) TE),.blk ba (cl [.int .i64 (e:Int)] TI),.blk bc (cl [.int .i64 260] TC)] w'):=by
 refine callsD_of_wpS Tryz.func37 rfl fun c₀ cs hu=>(wpS_seq (wpS_region ?_))
 have hr:recoverD (c₀ :: cs)=some (.iface 91 (.agg #[.int .i64 (e:Int)]),{ c₀ with mode:=.panicking [rI 91 e] } :: cs):=by simp [recoverD,hu,mW,rI]
 rw [show Tryz.f37.ntmps=11 from rfl]
 simp only [wpOpsS,List.range,List.range.loop,Array.size,List.length,List.getElem?_toArray,List.getElem?_cons_zero,List.getElem?_cons_succ,Region.wanted,if_true]
 have e1:∀ (ρ:Operand→Value) (d:Option Nat) (t:TypeId) (p:String) (af:Array Edge),(execOp ρ ⟨d,.call { callee:=.builtin .recover,args:=#[],argTypes:=#[] },t,p,af,none⟩).run Tryz.prog w=.ok .recover w:=fun ρ d t p af=>by
  simp [execOp,resolve,invoke,builtin]
 simp only [e1,hr]
 simp [execOp,Oper.upon,Exit.thenS,Act.put,Act.eval]
 refine wpS_of_wp ?_
 have e2:(binOp .eql 20 (.iface 91 (.agg #[.int .i64 (e:Int)])) .nilIface).run Tryz.prog w=.ok (.bool false) w:=by
  have hu20:=aEf aG0
  obtain ⟨q,hq⟩:=hu20
  have e4:∀ d,(Op.equalIn (d+1) 20 (.iface 91 (.agg #[.int .i64 (e:Int)])) .nilIface).run Tryz.prog w=.ok false w:=fun d=>by
   unfold Op.equalIn
   simp only [Sem.run_bind,run_underlying hq,Result.andThen_ok,Sem.run_pure]
  obtain ⟨d,hd⟩ : ∃ d,Op.maxDepth=d+1:=Nat.exists_eq_succ_of_ne_zero (by decide)
  simp [binOp,Op.equal,hd,e4]
 have e3:(eqGuard .eql 20 (.tmp 5) (.const .nilIface) (.iface 91 (.agg #[.int .i64 (e:Int)])) .nilIface).run Tryz.prog w=.ok () w:=by unfold eqGuard; simp
 refine wp_seq_k fun K1 hK1=>wp_seq_k fun K2 hK2=>wp_region ?_
 simp [wpOps,Region.wanted,execOp,Oper.wp,Oper.upon,Exit.then,Act.put,Act.eval,List.range,List.range.loop,e2,e3]
 refine .inl (.inl (hK2 _ _ ?_))
 refine wp_cond_false ?_ ?_
 ·simp [Act.eval]
 refine wp_skip ?_
 refine hK1 _ _ ?_
 refine aVn (fn:=Tryz.f37) (n:=11) (G:=G) (G1:=G) (K0:=keys [.blk be (cl es TE),.blk ba (cl [x] TI),.blk bc (cl [y] TC)]) (w0:=w) (ρ:=[(0,true,.pointer (some ⟨be,0,none⟩)),(1,true,.pointer (some ⟨ba,0,none⟩)),(2,true,.pointer (some ⟨bc,0,none⟩)),(3,true,.iface 91 (.agg #[.int .i64 (e:Int)]))]) (μ:=[.blk be (cl es TE),.blk ba (cl [x] TI),.blk bc (cl [y] TC)])
  (I:=fun a w'=>a.defers=[]∧Tr G (keys [.blk be (cl es TE),.blk ba (cl [x] TI),.blk bc (cl [y] TC)]) w G [.blk be (cl (EvD.cells EvD.zero (.slice none 0 0) (.slice none 0 0) (.slice none 0 0)) TE),.blk ba (cl [.int .i64 (e:Int)] TI),.blk bc (cl [.int .i64 260] TC)] w') ?_ ⟨by simp [sF],rfl,?_⟩ (eK hs) ?_
 ·skip
  refine eT ⟨false,false⟩ aY (by kernel_rfl) ?_
  refine Wp.one 0 (by kernel_rfl) ?_
  refine dK (EvD.cells EvD.zero (.slice none 0 0) (.slice none 0 0) (.slice none 0 0)) rfl .no rU .nil rfl (rfl) (.nil (Wp.one 1 (by kernel_rfl) ?_))
  refine mV rfl rfl (.nil (Wp.b2 2 4 (by kernel_rfl) ?_ ?_))
  ·refine tA rfl jM (.u rfl) ?_
   refine .nil (Wp.one 3 (by kernel_rfl) ?_)
   refine fdV rfl .no aL5 (.u rfl) (fun _=>rfl) ?_
   refine .nil (Wp.b1 4 (by kernel_rfl) ?_)
   refine sw rfl (.u rfl) (.u rfl) rfl cN .here (by rw [hl]; rfl) (EvD.one _ rfl rfl rfl) ?_
   refine .nil (Wp.b1 5 (by kernel_rfl) ?_)
   refine s1 rfl (.u rfl) (.u rfl) rfl fL aC (by first|decide|(simp only [bW,bR,cC]; omega)) (rfl) ?_
   refine .nil (Wp.b1 6 (by kernel_rfl) ?_)
   refine s1 rfl (.u rfl) (.u rfl) rfl oC aM (by first|decide|(simp only [bW,bR,cC]; omega)) (rfl) ?_
   refine .nil (Wp.last (by kernel_rfl) ?_)
   exact ⟨fun a w ha ht=>⟨ha.defers,ht.perm (jI aM aC .here)⟩⟩
  refine sw rfl (.u rfl) (.u rfl) rfl cN .here (by rw [hl]; rfl) (EvD.one _ rfl rfl rfl) ?_
  refine .nil (Wp.b1 2 (by kernel_rfl) ?_)
  refine tA rfl jM (.u rfl) ?_
  refine .nil (Wp.one 3 (by kernel_rfl) ?_)
  refine fdV rfl .no aL5 (.u rfl) (fun _=>rfl) ?_
  refine .nil (Wp.b1 5 (by kernel_rfl) ?_)
  refine s1 rfl (.u rfl) (.u rfl) rfl fL aC (by first|decide|(simp only [bW,bR,cC]; omega)) (rfl) ?_
  refine .nil (Wp.b1 6 (by kernel_rfl) ?_)
  refine s1 rfl (.u rfl) (.u rfl) rfl oC aM (by first|decide|(simp only [bW,bR,cC]; omega)) (rfl) ?_
  refine .nil (Wp.last (by kernel_rfl) ?_)
  exact ⟨fun a w ha ht=>⟨ha.defers,ht.perm (jI aM aC .here)⟩⟩
 ·intro i c v h
  simp only [qQ] at h
  repeat' split at h
  all_goals first
   | (rename_i hq; subst hq; cases h; simp)
   | cases h
 rintro a w' ⟨h1,h2⟩
 refine ⟨h1,.panicking [rI 91 e],rfl,.tuple #[],?_,⟨_,rfl⟩,rfl,h2⟩
 simp [results,Tryz.f37]
end Go.Proofs.YtoifkgkandfeiaaGreatDoor
namespace Go.Proofs.YtoifkgkandfeiaaGreatDoor
open Go.Tan Go.RowKit Go.Maps Go.Sort Go.Shelf
theorem aMg:aJ Tryz.prog 36=true:=by kernel_rfl
theorem aL0:cX Tryz.prog 94 [0,2]=some ([.string ByteArray.empty,.int .i64 0,.bool false,.int .i64 0],[(0,1),(2,1)]):=by kernel_rfl
theorem aMh:aJ Tryz.prog 38=true:=by kernel_rfl
theorem aOt (s:List UInt8) (k:Nat) (G:PM) (h:k<s.length) (h7:s[k].toNat<127):Ct Tryz.prog 36 ([.string (cA ((yb (aG s)).drop k))]:List Value).toArray G [] (fun _ μ' u=>μ'=[]∧u=.tuple #[.int .i32 (s[k].toNat:Int),.int .i64 1]):=by
 rw [vE]
 exact aBo fun w=>Tryz.utf8_DecodeRuneInString_ascii (aG (s.drop k)) s[k] w (aPE h) (by omega)
theorem yB (s:List UInt8) (G:PM) (hl:s.length≤1000) (hsn:s.all aFP=true):Ct Tryz.prog 17 ([.string (aG s)]:List Value).toArray G [] (fun G' μ' u=>∃ (e:EvD) (hO hK hB:Sh) (i:Nat) (c:Int),zT s e i c∧μ'=[]∧u=.tuple #[.agg (EvD.cells e (hO.val e.ops.length) (hK.val e.keep.length) (hB.val e.bytes.length)).toArray,.int .i64 (i:Int),.int .i64 c]∧SlR G' 3 Opn.cells hO e.ops∧SlR G' 1 fY hK e.keep∧SlR G' 1 aU hB (yb (aG e.bytes))):=by
 refine Ct.of Tryz.func17 rfl Tryz.ntmps17 rfl fun w0 hs0=>?_
 have hts:(aG s).size=s.length:=rfl
 refine .seq (dQ rfl rfl ?_)
 refine al rfl iP ?_; intro b2
 refine al rfl aDV ?_; intro b3
 refine al rfl aBS ?_; intro b4
 refine .g (ls rfl .no cE (.u rfl) (cP rfl rfl rfl rfl (.g (cD rfl (fun c1=>?_) (fun c1=>?_)))))
 ·have c1k:=c1
  have c1:=of_decide_eq_true c1
  omega
 have c1k:=c1
 try simp only [aD,aL,aE] at c1
 refine .skip (.code (.seq (.seq (bF rfl rfl (mV rfl rfl ?_)))))
 refine rgT rfl cE (.u rfl) ?_; intro b15
 refine .nil (.code (.block ?_))
 refine aV (α:=Nat) (fun _=>[]) (fun k=>[.blk b15 (.stringIter (aG s) k)])
  (fun k Gl=>(k≤s.length)) (fun k=>s.length-k) 0 [(0,true,_),(2,true,_),(3,true,_),(4,true,_),(15,true,_)] [_,_,_]
  (aA rfl (aA rfl (aA rfl (aA rfl (aA rfl eZ)))))
  (mS .here rfl (mS .here rfl (mS .here rfl (mS .here rfl mN)))) ?_ ?_
 ·(try dsimp only)<;>(first|omega|rfl|assumption|(simp; done))
 intro k N0 Gl0 hN0 hGl0 hF0
 try dsimp only at hF0 hN0 ⊢
 have hk:=hF0
 refine .g (aCR rfl (.u rfl) .here ?_)
 refine ex (vs:=(hZ (aG s) k).toList) rfl .no (.u rfl) (aB8 _ _) (.g (cD rfl (fun c2=>?_) (fun c2=>?_)))
 ·have c2k:=c2
  try simp only [aD,aL,aE] at c2
  refine .skip (.code (.block (.seq (dI rfl rfl ?_))))
  have hkl:k<s.length:=by rw [← hts]; simpa using c2
  obtain ⟨er,h32,h127,hit⟩:=aT8 (d:=s) (k:=k) hkl hsn
  refine ex (vs:=(hZ (aG s) k).toList) rfl .no (.u rfl) (aEh hkl) (ex (vs:=(hZ (aG s) k).toList) rfl .no (.u rfl) (aB9 hkl) (.g (sD (k) rfl .no cE (.u rfl) (.u rfl) (by omega) (fun _=>by rw [dJ]; omega) ?_)))
  refine kV rfl aMg (aB rfl aF) (aOt s k _ hkl h127) ?_
  refine .p (eX rfl rfl rfl (eX rfl rfl rfl (.g (cP rfl rfl rfl rfl (mV rfl rfl (mv rfl (.f rfl rfl) (.u rfl) (cp rfl (.f rfl rfl) (.s rfl) (.u rfl) rfl (cF rfl .no (.u rfl) (.s rfl) (mV rfl rfl (mv rfl (.f rfl rfl) (.u rfl) (cp rfl (.f rfl rfl) (.s rfl) (.u rfl) rfl (mv rfl (.f rfl rfl) (.s rfl) (mv rfl (.tc rfl rfl) (.u rfl) (cp rfl (.tc rfl rfl) (.s rfl) (.u rfl) rfl (cW rfl (.f rfl rfl) (.s rfl) (.s rfl) (cF rfl .no (.u rfl) (.s rfl) (.g (cD rfl (fun c3=>?_) (fun c3=>?_)))))))))))))))))))
  ·have c3k:=c3
   rw [er] at c3
   simp at c3
   omega
  have c3k:=c3
  try simp only [aD,aL,aE] at c3
  refine .g (aT (k+1) ?_ ?_ ?_ ?_ ?_)
  ·exact (aA rfl (aA rfl (aA rfl (aA rfl (aA rfl eZ)))))
  ·exact (mS .here (by rw [hit]) (mS .here rfl (mS .here rfl (mS .here rfl mN))))
  ·first|omega|(dsimp only; omega)
  ·exact hGl0
  (try dsimp only)<;>(first|omega|rfl|assumption|(simp; done))
 have c2k:=c2
 try simp only [aD,aL,aE] at c2
 refine .exit (.xcode (.xlp (.xblk (.code (.seq (aHD [0] 1 ⟨37,[],[.pointer (some ⟨b2,0,none⟩),.pointer (some ⟨b3,0,none⟩),.pointer (some ⟨b4,0,none⟩)]⟩ 91 b2 b3 b4 27 3 30 11 (EvD.cells EvD.zero (.slice none 0 0) (.slice none 0 0) (.slice none 0 0)) (.int .i64 260) (fun e=>kT s=.error e) (fun e=>[.agg (EvD.cells EvD.zero (.slice none 0 0) (.slice none 0 0) (.slice none 0 0)).toArray,.int .i64 (e:Int),.int .i64 260]) aDN rfl rfl (fun w G e es x y hs hl=>aJz w G e es x y b2 b3 b4 27 3 30 hs hl) (fun e hD G'=>⟨EvD.zero,⟨none,0⟩,⟨none,0⟩,⟨none,0⟩,e,260,.inr ⟨hD,rfl,rfl⟩,rfl,rfl,SlR.nul,SlR.nul,dM⟩) rfl rfl (mf (vf:=#[]) (vc:=[Value.pointer (some ⟨b2,0,none⟩),Value.pointer (some ⟨b3,0,none⟩),Value.pointer (some ⟨b4,0,none⟩)].toArray) rfl .no (fun a ha _=>by simp) (fun a ha _=>by simp [(Ev.u (c:=true) rfl:Ev _ true (.tmp 2) _).eval ha rfl,(Ev.u (c:=true) rfl:Ev _ true (.tmp 3) _).eval ha rfl,(Ev.u (c:=true) rfl:Ev _ true (.tmp 4) _).eval ha rfl]) ?_)))))))
 refine .nil ⟨aC0 rfl rfl,?_⟩
 refine .g (cs rfl .no (.u rfl) (.u rfl) rfl (dK (Ln.cells ⟨s,0, !decide (s=[]),0⟩) rfl .no aL0 (.cons (.u rfl) rfl (.cons (.u rfl) rfl .nil)) rfl (by rw [← aJN]; rfl) ?_))
 refine bX rfl rfl rfl ?_; intro b48
 refine .g (dZ rfl aMh (aB rfl aF) (bK .here) (aIx b48 ⟨s,0, !decide (s=[]),0⟩ _ (aEV hl)) (fun ch G9 ρ9 μ9 hle9 hd he hm=>aHt hd he hm bG rfl aM aC (fun e=>.cell rfl (fun w hw=>bE bU (RdN.own .here) rfl hw) (.cell rfl (fun w hw=>iZ bA (Rd.own aC rfl w hw)) (.cell rfl (fun w hw=>iZ lG (Rd.own aM rfl w hw)) .nil)))) ?_)
 rintro _ G50 μ50 hG50 ⟨e,hO,hK,hB,lx,he,hfx,rfl,rfl,hsO,hsK,hsB⟩
 refine sw rfl (.u rfl) (.u rfl) rfl cN eN rfl (EvD.one _ rfl rfl rfl) ?_
 refine s1 rfl (.u rfl) (.u rfl) rfl fL eN (by first|decide|(simp only [bW,bR,cC]; omega)) (rfl) ?_
 refine s1 rfl (.u rfl) (.u rfl) rfl oC eN (by first|decide|(simp only [bW,bR,cC]; omega)) (rfl) ?_
 refine .nil (.code (.ret (zV [⟨37,[],[.pointer (some ⟨b2,0,none⟩),.pointer (some ⟨b3,0,none⟩),.pointer (some ⟨b4,0,none⟩)]⟩] rfl (by intro q hq; rw [List.mem_singleton.1 hq]; exact ⟨aDN,fun w hw=>aJ0 w _ _ _⟩) Tryz.results17 (.cell rfl (fun w hw=>bE bU (RdN.own aM) (rfl) hw) (.cell rfl (fun w hw=>iZ bA (Rd.own aC rfl w hw)) (.cell rfl (fun w hw=>iZ lG (Rd.own .here rfl w hw)) .nil))) mN ?_)))
 exact ⟨e,hO,hK,hB,0,0,.inl ⟨he,rfl,rfl⟩,rfl,rfl,hsO,hsK,hsB⟩
end Go.Proofs.YtoifkgkandfeiaaGreatDoor
namespace Go.Proofs.YtoifkgkandfeiaaGreatDoor
open Go.Tan Go.RowKit Go.Maps Go.Sort Go.Shelf
theorem aOr (s:List UInt8) (k:Nat) (G:PM) (h:k<s.length) (hU:UtG G):Ct Tryz.prog 36 ([.string (cA ((yb (aG s)).drop k))]:List Value).toArray G [] (fun _ μ' u=>μ'=[]∧u=.tuple #[.int .i32 ((Utf8.decode (aG s) k).1:Int),.int .i64 ((Utf8.decode (aG s) k).2:Int)]):=by
 rw [vE,←aOs h]
 exact aHi fun w hs=>Any.utf8_DecodeRuneInString Tryz.lays197 (aG (s.drop k)) w (hU w hs.sub)
theorem aSv (s:List UInt8) (G:PM) (hU:UtG G):Ct Tryz.prog 17 ([.string (aG s)]:List Value).toArray G [] (fun G' μ' u=>∃ (e:EvD) (hO hK hB:Sh) (i:Nat) (c:Int),PrsG s e i c∧μ'=[]∧u=.tuple #[.agg (EvD.cells e (hO.val e.ops.length) (hK.val e.keep.length) (hB.val e.bytes.length)).toArray,.int .i64 (i:Int),.int .i64 c]∧SlR G' 3 Opn.cells hO e.ops∧SlR G' 1 fY hK e.keep∧SlR G' 1 aU hB (yb (aG e.bytes))):=by
 refine Ct.of Tryz.func17 rfl Tryz.ntmps17 rfl fun w0 hs0=>?_
 have hts:(aG s).size=s.length:=rfl
 refine .seq (dQ rfl rfl ?_)
 refine al rfl iP ?_; intro b2
 refine al rfl aDV ?_; intro b3
 refine al rfl aBS ?_; intro b4
 refine .g (ls rfl .no cE (.u rfl) (cP rfl rfl rfl rfl (.g (cD rfl (fun c1=>?_) (fun c1=>?_)))))
 ·have c1k:=c1
  have c1:1000<s.length:=by have:=of_decide_eq_true c1; omega
  refine .g (dK (EvD.cells EvD.zero (.slice none 0 0) (.slice none 0 0) (.slice none 0 0)) rfl .no rU .nil rfl (rfl) (sw rfl (.u rfl) (.u rfl) rfl cN aM rfl (EvD.one _ rfl rfl rfl) ?_))
  refine s1 rfl (.u rfl) (.u rfl) rfl fL aM (by first|decide|(simp only [bW,bR,cC]; omega)) (rfl) ?_
  refine s1 rfl (.u rfl) (.u rfl) rfl oC aM (by first|decide|(simp only [bW,bR,cC]; omega)) (rfl) ?_
  refine .nil (.code (.ret (aN Tryz.results17 (.cell rfl (fun w hw=>bE bU (RdN.own aM) (rfl) hw) (.cell rfl (fun w hw=>iZ bA (Rd.own aC rfl w hw)) (.cell rfl (fun w hw=>iZ lG (Rd.own .here rfl w hw)) .nil))) ?_)))
  exact ⟨EvD.zero,⟨none,0⟩,⟨none,0⟩,⟨none,0⟩,0,4,.inl ⟨c1,rfl,rfl,rfl⟩,rfl,rfl,SlR.nul,SlR.nul,dM⟩
 have c1k:=c1
 have c1:s.length≤1000:=by have:=of_decide_eq_false c1; omega
 refine .skip (.code (.seq (.seq (bF rfl rfl (mV rfl rfl ?_)))))
 refine rgT rfl cE (.u rfl) ?_; intro b15
 refine .nil (.code (.block ?_))
 refine aV (α:=Nat) (fun _=>[]) (fun k=>[.blk b15 (.stringIter (aG s) k)])
  (fun k Gl=>(jK (aG s) 0=jK (aG s) k)) (fun k=>s.length-k) 0 [(0,true,_),(2,true,_),(3,true,_),(4,true,_),(15,true,_)] [_,_,_]
  (aA rfl (aA rfl (aA rfl (aA rfl (aA rfl eZ)))))
  (mS .here rfl (mS .here rfl (mS .here rfl (mS .here rfl mN)))) ?_ ?_
 ·(try dsimp only)<;>(first|omega|rfl|assumption|(simp; done))
 intro k N0 Gl0 hN0 hGl0 hF0
 try dsimp only at hF0 hN0 ⊢
 have hw:=hF0
 have hU:=hU.mono hGl0
 refine .g (aCR rfl (.u rfl) .here ?_)
 refine ex (vs:=(hZ (aG s) k).toList) rfl .no (.u rfl) (aB8 _ _) (.g (cD rfl (fun c2=>?_) (fun c2=>?_)))
 ·have c2k:=c2
  have c2:k<(aG s).size:=of_decide_eq_true c2
  refine .skip (.code (.block (.seq (dI rfl rfl ?_))))
  have hkl:k<s.length:=c2
  refine ex (vs:=(hZ (aG s) k).toList) rfl .no (.u rfl) (aEh hkl) (ex (vs:=(hZ (aG s) k).toList) rfl .no (.u rfl) (aB9 hkl) (.g (sD (k) rfl .no cE (.u rfl) (.u rfl) (by omega) (fun _=>by rw [dJ]; omega) ?_)))
  refine kV rfl aMg (aB rfl aF) (aOr s k _ hkl hU) ?_
  refine .p (eX rfl rfl rfl (eX rfl rfl rfl (.g (cP rfl rfl rfl rfl (mV rfl rfl (mv rfl (.f rfl rfl) (.u rfl) (cp rfl (.f rfl rfl) (.s rfl) (.u rfl) rfl (cF rfl .no (.u rfl) (.s rfl) (mV rfl rfl (mv rfl (.f rfl rfl) (.u rfl) (cp rfl (.f rfl rfl) (.s rfl) (.u rfl) rfl (mv rfl (.f rfl rfl) (.s rfl) (mv rfl (.tc rfl rfl) (.u rfl) (cp rfl (.tc rfl rfl) (.s rfl) (.u rfl) rfl (cW rfl (.f rfl rfl) (.s rfl) (.s rfl) (cF rfl .no (.u rfl) (.s rfl) (.g (cD rfl (fun c3=>?_) (fun c3=>?_)))))))))))))))))))
  ·have c3k:=c3
   skip
   refine .g (dK (EvD.cells EvD.zero (.slice none 0 0) (.slice none 0 0) (.slice none 0 0)) rfl .no rU .nil rfl (rfl) (.p (sw rfl (.u rfl) (.u rfl) rfl cN bG rfl (EvD.one _ rfl rfl rfl) ?_)))
   refine s1 rfl (.u rfl) (.u rfl) rfl fL bG (by first|decide|(simp only [bW,bR,cC]; omega)) (rfl) ?_
   refine s1 rfl (.u rfl) (.u rfl) rfl oC bG (by first|decide|(simp only [bW,bR,cC]; omega)) (rfl) ?_
   refine .nil (.code (.ret (aN Tryz.results17 (.cell rfl (fun w hw=>bE bU (RdN.own aM) (rfl) hw) (.cell rfl (fun w hw=>iZ bA (Rd.own aC rfl w hw)) (.cell rfl (fun w hw=>iZ lG (Rd.own .here rfl w hw)) .nil))) ?_)))
   exact ⟨EvD.zero,⟨none,0⟩,⟨none,0⟩,⟨none,0⟩,k,260,.inr (.inl ⟨c1,hw.trans (aLO c2 (aHU.symm.trans c3k)),rfl,rfl⟩),rfl,rfl,SlR.nul,SlR.nul,dM⟩
  have c3k:=c3
  skip
  refine .g (aT (iB (aG s) k) ?_ ?_ ?_ ?_ ?_)
  ·exact (aA rfl (aA rfl (aA rfl (aA rfl (aA rfl eZ)))))
  ·exact (mS .here rfl (mS .here rfl (mS .here rfl (mS .here rfl mN))))
  ·have ha:=aBs (aG s) k c2; show s.length-iB (aG s) k<N0; unfold iB; rw [if_pos c2]; omega
  ·exact hGl0
  (try dsimp only)<;>(rw [hw]; exact aLQ c2 (aHU.symm.trans c3k))
 have c2k:=c2
 have c2:¬ k<(aG s).size:=of_decide_eq_false c2
 have hw9:jK (aG s) 0=none:=hw.trans (aLP c2)
 refine .exit (.xcode (.xlp (.xblk (.code (.seq (aHD [0] 1 ⟨37,[],[.pointer (some ⟨b2,0,none⟩),.pointer (some ⟨b3,0,none⟩),.pointer (some ⟨b4,0,none⟩)]⟩ 91 b2 b3 b4 27 3 30 11 (EvD.cells EvD.zero (.slice none 0 0) (.slice none 0 0) (.slice none 0 0)) (.int .i64 260) (fun e=>kT s=.error e) (fun e=>[.agg (EvD.cells EvD.zero (.slice none 0 0) (.slice none 0 0) (.slice none 0 0)).toArray,.int .i64 (e:Int),.int .i64 260]) aDN rfl rfl (fun w G e es x y hs hl=>aJz w G e es x y b2 b3 b4 27 3 30 hs hl) (fun e hD G'=>⟨EvD.zero,⟨none,0⟩,⟨none,0⟩,⟨none,0⟩,e,260,.inr (.inr ⟨c1,hw9,.inr ⟨hD,rfl,rfl⟩⟩),rfl,rfl,SlR.nul,SlR.nul,dM⟩) rfl rfl (mf (vf:=#[]) (vc:=[Value.pointer (some ⟨b2,0,none⟩),Value.pointer (some ⟨b3,0,none⟩),Value.pointer (some ⟨b4,0,none⟩)].toArray) rfl .no (fun a ha _=>by simp) (fun a ha _=>by simp [(Ev.u (c:=true) rfl:Ev _ true (.tmp 2) _).eval ha rfl,(Ev.u (c:=true) rfl:Ev _ true (.tmp 3) _).eval ha rfl,(Ev.u (c:=true) rfl:Ev _ true (.tmp 4) _).eval ha rfl]) ?_)))))))
 refine .nil ⟨aC0 rfl rfl,?_⟩
 refine .g (cs rfl .no (.u rfl) (.u rfl) rfl (dK (Ln.cells ⟨s,0, !decide (s=[]),0⟩) rfl .no aL0 (.cons (.u rfl) rfl (.cons (.u rfl) rfl .nil)) rfl (by rw [← aJN]; rfl) ?_))
 refine bX rfl rfl rfl ?_; intro b48
 refine .g (dZ rfl aMh (aB rfl aF) (bK .here) (aIx b48 ⟨s,0, !decide (s=[]),0⟩ _ (aEV c1)) (fun ch G9 ρ9 μ9 hle9 hd he hm=>aHt hd he hm bG rfl aM aC (fun e=>.cell rfl (fun w hw=>bE bU (RdN.own .here) rfl hw) (.cell rfl (fun w hw=>iZ bA (Rd.own aC rfl w hw)) (.cell rfl (fun w hw=>iZ lG (Rd.own aM rfl w hw)) .nil)))) ?_)
 rintro _ G50 μ50 hG50 ⟨e,hO,hK,hB,lx,he,hfx,rfl,rfl,hsO,hsK,hsB⟩
 refine sw rfl (.u rfl) (.u rfl) rfl cN eN rfl (EvD.one _ rfl rfl rfl) ?_
 refine s1 rfl (.u rfl) (.u rfl) rfl fL eN (by first|decide|(simp only [bW,bR,cC]; omega)) (rfl) ?_
 refine s1 rfl (.u rfl) (.u rfl) rfl oC eN (by first|decide|(simp only [bW,bR,cC]; omega)) (rfl) ?_
 refine .nil (.code (.ret (zV [⟨37,[],[.pointer (some ⟨b2,0,none⟩),.pointer (some ⟨b3,0,none⟩),.pointer (some ⟨b4,0,none⟩)]⟩] rfl (by intro q hq; rw [List.mem_singleton.1 hq]; exact ⟨aDN,fun w hw=>aJ0 w _ _ _⟩) Tryz.results17 (.cell rfl (fun w hw=>bE bU (RdN.own aM) (rfl) hw) (.cell rfl (fun w hw=>iZ bA (Rd.own aC rfl w hw)) (.cell rfl (fun w hw=>iZ lG (Rd.own .here rfl w hw)) .nil))) mN ?_)))
 exact ⟨e,hO,hK,hB,0,0,.inr (.inr ⟨c1,hw9,.inl ⟨he,rfl,rfl⟩⟩),rfl,rfl,hsO,hsK,hsB⟩
end Go.Proofs.YtoifkgkandfeiaaGreatDoor
namespace Go.Proofs.YtoifkgkandfeiaaGreatDoor
open Go.Tan Go.RowKit Go.Maps Go.Sort Go.Shelf
theorem aYc:aJ Tryz.prog 39=true:=by kernel_rfl
theorem aYf:aJ Tryz.prog 40=true:=by kernel_rfl
theorem aWM:cX Tryz.prog 102 [0,1,3,4]=some ([.slice none 0 0,.slice none 0 0,.int .i64 0,.int .i64 0,.int .i64 0],[(0,1),(1,1),(3,1),(4,1)]):=by kernel_rfl
theorem aYg:aJ Tryz.prog 41=true:=by kernel_rfl
theorem aTS (s:List UInt8) (G:PM) (hz:s.length≤2000):Ct Tryz.prog 18 ([.string (aG s)]:List Value).toArray G [] (fun G' μ' u=>∃ (e:EvD) (hO hK hB:Sh) (i:Nat) (c:Int),PrsG s e i c∧μ'=[]∧u=.tuple #[.agg (EvD.cells e (hO.val e.ops.length) (hK.val e.keep.length) (hB.val e.bytes.length)).toArray,.int .i64 (i:Int),.int .i64 c]∧SlR G' 3 Opn.cells hO e.ops∧SlR G' 1 fY hK e.keep∧SlR G' 1 aU hB (yb (aG e.bytes))):=by
 refine Ct.of Tryz.func18 rfl Tryz.ntmps18 rfl fun w0 hs0=>?_
 have hts:(aG s).size=s.length:=rfl
 have hwl:=aVx s
 have hww:=aVw s
 refine .seq (dQ rfl rfl ?_)
 refine al rfl iP ?_; intro b2
 refine .g (ls rfl .no cE (.u rfl) (cP rfl rfl rfl rfl (.g (cD rfl (fun c1=>?_) (fun c1=>?_)))))
 ·have c1k:=c1
  have c1:1000<s.length:=by have:=of_decide_eq_true c1; omega
  refine .g (bC rfl .no rU .nil rfl ?_)
  refine sw rfl (.u rfl) (.u rfl) rfl cN .here rfl (EvD.one EvD.zero rfl rfl rfl) ?_
  refine aS rfl rfl (aS rfl rfl (.nc (.ret (aN Tryz.results18 (.cell rfl (fun w hw=>bE bU (RdN.own .here) (rfl) hw) (.tmp rfl (.tmp rfl .nil))) ?_))))
  exact ⟨EvD.zero,⟨none,0⟩,⟨none,0⟩,⟨none,0⟩,0,4,.inl ⟨c1,rfl,rfl,rfl⟩,rfl,rfl,SlR.nul,SlR.nul,dM⟩
 have c1k:=c1
 have c1:s.length≤1000:=by have:=of_decide_eq_false c1; omega
 refine .g (kV rfl aYc (aB rfl aF) (aTU s _ (by omega)) ?_)
 refine .g (cP rfl rfl rfl rfl (.g (cD rfl (fun c2=>?_) (fun c2=>?_))))
 ·have c2k:=c2
  obtain ⟨b,hb⟩:=aBd (B:=jK (aG s) 0) (by have:=of_decide_eq_true c2; omega)
  refine .g (bC rfl .no rU .nil rfl ?_)
  refine .p (sw rfl (.u rfl) (.u rfl) rfl cN .here rfl (EvD.one EvD.zero rfl rfl rfl) ?_)
  refine aS rfl rfl (aS rfl rfl (.nc (.ret (aN Tryz.results18 (.cell rfl (fun w hw=>bE bU (RdN.own .here) (rfl) hw) (.tmp rfl (.tmp rfl .nil))) ?_))))
  exact ⟨EvD.zero,⟨none,0⟩,⟨none,0⟩,⟨none,0⟩,b,260,.inr (.inl ⟨c1,hb,rfl,rfl⟩),rfl,by rw [hb]; rfl,SlR.nul,SlR.nul,dM⟩
 have c2k:=c2
 have hw9:jK (aG s) 0=none:=zY (by have:=of_decide_eq_false c2; omega)
 refine .g (kc rfl aYf (aB rfl aF) (aTT s _ (by omega)) ?_)
 rintro _ G22 μ22 hG22 ⟨hL,hA,rfl,rfl,hsL,hsA⟩
 have hlx:((gE s).map gP).length=(gE s).length:=List.length_map _
 have hla:((gE s).map wat).length=(gE s).length:=List.length_map _
 refine .p (eX rfl rfl rfl (eX rfl rfl rfl (.g (ls rfl .no cE (.u rfl) (bC rfl .no aWM (.cons (.u rfl) rfl (.cons (.u rfl) rfl (.cons (.u rfl) rfl (.cons (.u rfl) rfl .nil)))) rfl ?_)))))
 refine bX rfl rfl rfl ?_; intro b30
 refine .g (ka rfl (.inr rfl) aYg (aB rfl aF) (bK .here) (aTR b30 hL hA (gE s) s.length ⟨s,0, !decide (s=[]),0⟩ _ hsL hsA (aNN s) (by omega) (fun q hq=>by have:=hww q hq; omega)) ?_)
 rintro _ G32 μ32 hG32 ⟨e,hO,hK,hB,I2,B2,r2,hR2,hc2,rfl,rfl,hsO,hsK,hsB⟩
 have hI2:=hR2.le
 obtain ⟨hF1,hF2,hF3⟩:=hR2.fin (s:=s) hc2
 have hsA:=hsA.mono hG32
 refine al rfl iP ?_; intro b9
 refine sw rfl (.u rfl) (.u rfl) rfl cN .here rfl (EvD.one _ rfl rfl rfl) ?_
 refine .g (bZ (mc:=⟨false,false⟩) [0,1,2,3,4,5,6,7,8,9,10,11,12,13,14,15,16] aY (by kernel_rfl) ?_)
 refine .p (nC rfl rfl (fZ rfl nZ rfl (lO rfl bA rfl aC (by first|exact aK rfl|rfl) ?_)))
 refine .p (nC rfl rfl (fZ rfl wE rfl (lO rfl tL rfl aC (by first|exact aK rfl|rfl) ?_)))
 refine lE rfl tX rfl (cP rfl rfl rfl rfl (mV rfl rfl (mv rfl (.t rfl rfl) (.u rfl) (nc rfl (.t rfl rfl) (.s rfl) (fz rfl (.t rfl rfl) pW (.s rfl) (ld rfl (.t rfl rfl) bA (.s rfl) (fun hc=>Rd.own aC (by first|exact aK rfl|rfl)) ?_))))))
 refine cp rfl (.t rfl rfl) (.s rfl) (.u rfl) rfl (cW rfl .no (.u rfl) (.s rfl) (.g (cD rfl (fun c3=>?_) (fun c3=>?_))))
 ·have c3k:=c3
  simp only [Bool.and_eq_true,decide_eq_true_eq] at c3
  have hB2:=zY c3.2
  have hIl:I2<(gE s).length:=by omega
  refine bZ (mc:=⟨false,false⟩) [0,1,2,3,4,5,6,7,8,9,10,11,12,13] aY (by kernel_rfl) ?_
  refine .p (nC rfl rfl (fZ rfl aL6 rfl (lO rfl qF rfl aC (by first|exact aK rfl|rfl) ?_)))
  refine .p (nC rfl rfl (fZ rfl nZ rfl (lO rfl bA rfl aC (by first|exact aK rfl|rfl) ?_)))
  refine ih rfl .no oF (.u rfl) (.u rfl) (by omega) (by omega) (fun _=>hsA.nn (k:=I2) (by first|omega|(simp only [Bool.and_eq_true,decide_eq_true_eq] at hc; omega)|(simp only [List.length_cons,List.length_nil]; omega))) ?_
  obtain ⟨q,eq⟩:=dT (k:=I2) (xs:=gE s) hIl
  have eqa:((gE s).map wat)[I2]? = some (wat q):=by rw [List.getElem?_map,eq]; rfl
  refine lN rfl bA rfl ((hsA.at (k:=I2) (by omega) eqa 0 _ rfl).rd) ?_
  refine nC rfl rfl (fZ rfl pW rfl (s1 rfl (.u rfl) (.u rfl) rfl fL aC (by first|decide | (show _<5; decide) | (show _<11; decide)) (rfl) ?_))
  refine .g (nC rfl rfl (fZ rfl pW rfl (lO rfl bA rfl .here (by first|exact aK rfl|rfl) ?_)))
  refine cP rfl rfl rfl rfl (.g (cD rfl (fun c4=>?_) (fun c4=>?_)))
  ·have c4k:=c4
   try simp only [aD,aL,aE] at c4
   refine .seq (eT ⟨false,false⟩ aY (by kernel_rfl) ?_)
   refine Wp.one 0 (by kernel_rfl) ?_
   refine bC rfl .no rU .nil rfl ?_
   refine .nil (Wp.one 1 (by kernel_rfl) ?_)
   refine mV rfl rfl (.nil (Wp.one 2 (by kernel_rfl) ?_))
   refine nC rfl rfl (.nil (Wp.one 3 (by kernel_rfl) ?_))
   refine fZ rfl pW rfl (.nil (Wp.b2 4 5 (by kernel_rfl) ?_ ?_))
   ·refine lO rfl bA rfl .here (by first|exact aK rfl|rfl) ?_
    refine .nil (Wp.b1 5 (by kernel_rfl) ?_)
    refine sw rfl (.u rfl) (.u rfl) rfl cN aM rfl (EvD.one EvD.zero rfl rfl rfl) ?_
    refine .nil (Wp.one 6 (by kernel_rfl) ?_)
    refine aS rfl rfl (.nil (Wp.one 7 (by kernel_rfl) ?_))
    refine aS rfl rfl (.nil (Wp.last (by kernel_rfl) ?_))
    refine .code (.ret (aN Tryz.results18 (.cell rfl (fun w hw=>bE bU (RdN.own .here) (rfl) hw) (.tmp rfl (.tmp rfl .nil))) ?_))
    exact ⟨EvD.zero,⟨none,0⟩,⟨none,0⟩,⟨none,0⟩,q.1,260,.inr (.inr ⟨c1,hw9,.inr ⟨hF2 hB2 hIl q eq,rfl,rfl⟩⟩),rfl,rfl,SlR.nul,SlR.nul,dM⟩
   refine sw rfl (.u rfl) (.u rfl) rfl cN aM rfl (EvD.one EvD.zero rfl rfl rfl) ?_
   refine .nil (Wp.one 4 (by kernel_rfl) ?_)
   refine lO rfl bA rfl aC (by first|exact aK rfl|rfl) ?_
   refine .nil (Wp.one 6 (by kernel_rfl) ?_)
   refine aS rfl rfl (.nil (Wp.one 7 (by kernel_rfl) ?_))
   refine aS rfl rfl (.nil (Wp.last (by kernel_rfl) ?_))
   refine .code (.ret (aN Tryz.results18 (.cell rfl (fun w hw=>bE bU (RdN.own .here) (rfl) hw) (.tmp rfl (.tmp rfl .nil))) ?_))
   exact ⟨EvD.zero,⟨none,0⟩,⟨none,0⟩,⟨none,0⟩,q.1,260,.inr (.inr ⟨c1,hw9,.inr ⟨hF2 hB2 hIl q eq,rfl,rfl⟩⟩),rfl,rfl,SlR.nul,SlR.nul,dM⟩
  have c4k:=c4
  have:=of_decide_eq_false c4
  unfold wat at this
  omega
 have c3k:=c3
 skip
 refine .g (nC rfl rfl (fZ rfl pW rfl (lO rfl bA rfl aC (by first|exact aK rfl|rfl) ?_)))
 refine cP rfl rfl rfl rfl (.g (cD rfl (fun c5=>?_) (fun c5=>?_)))
 ·have c5k:=c5
  obtain ⟨b,hb⟩:=aBd (B:=B2) (by have:=of_decide_eq_true c5; omega)
  refine .seq (eT ⟨false,false⟩ aY (by kernel_rfl) ?_)
  refine Wp.one 0 (by kernel_rfl) ?_
  refine bC rfl .no rU .nil rfl ?_
  refine .nil (Wp.one 1 (by kernel_rfl) ?_)
  refine mV rfl rfl (.nil (Wp.one 2 (by kernel_rfl) ?_))
  refine nC rfl rfl (.nil (Wp.one 3 (by kernel_rfl) ?_))
  refine fZ rfl pW rfl (.nil (Wp.b2 4 5 (by kernel_rfl) ?_ ?_))
  ·refine lO rfl bA rfl aC (by first|exact aK rfl|rfl) ?_
   refine .nil (Wp.b1 5 (by kernel_rfl) ?_)
   refine sw rfl (.u rfl) (.u rfl) rfl cN aM rfl (EvD.one EvD.zero rfl rfl rfl) ?_
   refine .nil (Wp.one 6 (by kernel_rfl) ?_)
   refine aS rfl rfl (.nil (Wp.one 7 (by kernel_rfl) ?_))
   refine aS rfl rfl (.nil (Wp.last (by kernel_rfl) ?_))
   refine .code (.ret (aN Tryz.results18 (.cell rfl (fun w hw=>bE bU (RdN.own .here) (rfl) hw) (.tmp rfl (.tmp rfl .nil))) ?_))
   exact ⟨EvD.zero,⟨none,0⟩,⟨none,0⟩,⟨none,0⟩,b,260,.inr (.inr ⟨c1,hw9,.inr ⟨hF1 b hb,rfl,rfl⟩⟩),rfl,by rw [hb]; rfl,SlR.nul,SlR.nul,dM⟩
  refine sw rfl (.u rfl) (.u rfl) rfl cN aM rfl (EvD.one EvD.zero rfl rfl rfl) ?_
  refine .nil (Wp.one 4 (by kernel_rfl) ?_)
  refine lO rfl bA rfl aM (by first|exact aK rfl|rfl) ?_
  refine .nil (Wp.one 6 (by kernel_rfl) ?_)
  refine aS rfl rfl (.nil (Wp.one 7 (by kernel_rfl) ?_))
  refine aS rfl rfl (.nil (Wp.last (by kernel_rfl) ?_))
  refine .code (.ret (aN Tryz.results18 (.cell rfl (fun w hw=>bE bU (RdN.own .here) (rfl) hw) (.tmp rfl (.tmp rfl .nil))) ?_))
  exact ⟨EvD.zero,⟨none,0⟩,⟨none,0⟩,⟨none,0⟩,b,260,.inr (.inr ⟨c1,hw9,.inr ⟨hF1 b hb,rfl,rfl⟩⟩),rfl,by rw [hb]; rfl,SlR.nul,SlR.nul,dM⟩
 have c5k:=c5
 have hB2:B2=none:=zY (by have:=of_decide_eq_false c5; omega)
 have hIl:¬ I2<(gE s).length:=fun h=>by rw [hB2,decide_eq_true (show ((I2:Nat):Int)<(((gE s).length:Nat):Int) by omega)] at c3; cases c3
 refine .g (lB rfl bU rfl .here ?_)
 refine sw rfl (.u rfl) (.u rfl) rfl cN aM rfl (EvD.one _ rfl rfl rfl) ?_
 refine aS rfl rfl (aS rfl rfl (.nc (.ret (aN Tryz.results18 (.cell rfl (fun w hw=>bE bU (RdN.own .here) (rfl) hw) (.tmp rfl (.tmp rfl .nil))) ?_))))
 exact ⟨e,hO,hK,hB,0,0,.inr (.inr ⟨c1,hw9,.inl ⟨hF3 hB2 hIl,rfl,rfl⟩⟩),rfl,rfl,hsO,hsK,hsB⟩
end Go.Proofs.YtoifkgkandfeiaaGreatDoor
namespace Go.Proofs
open Go.Shelf
def Tryz.lays156_ren:Go.Shelf.Ren:=⟨fun | 156=>79 | 165=>119 | 166=>43 | 169=>46 | 240=>78 | 241=>181 | 276=>118 | 277=>248 | n=>n,fun | 31=>97 | 9=>9 | 3=>3 | 4=>4 | 0=>0 | 20=>20 | 72=>106 | 76=>109 | 70=>104 | 37=>25 | 75=>108 | 127=>148 | 164=>217 | 5=>5 | 80=>112 | n=>n,fun | n=>n⟩
theorem Tryz.lays156:Go.Proofs.Lays.n156 Tryz.prog Tryz.lays156_ren:={
 mixed:=by kernel_rfl
 f156:=Tryz.func79.trans (congrArg some (by kernel_rfl))
 f165:=Tryz.func119.trans (congrArg some (by kernel_rfl))
 f166:=Tryz.func43.trans (congrArg some (by kernel_rfl))
 f169:=Tryz.func46.trans (congrArg some (by kernel_rfl))
 f240:=Tryz.func78.trans (congrArg some (by kernel_rfl))
 f241:=Tryz.func181.trans (congrArg some (by kernel_rfl))
 f276:=Tryz.func118.trans (congrArg some (by kernel_rfl))
 f277:=Tryz.func248.trans (congrArg some (by kernel_rfl))
 t0:=Tryz.underlying0
 a0:=Tryz.isAgg0
 z0:=Tryz.sizeOf0
 v0:=Tryz.zeroValue0
 t3:=Tryz.underlying3
 a3:=Tryz.isAgg3
 z3:=Tryz.sizeOf3
 v3:=Tryz.zeroValue3
 t4:=Tryz.underlying4
 a4:=Tryz.isAgg4
 z4:=Tryz.sizeOf4
 v4:=Tryz.zeroValue4
 t9:=Tryz.underlying9
 a9:=Tryz.isAgg9
 z9:=Tryz.sizeOf9
 v9:=Tryz.zeroValue9
 t20:=Tryz.underlying20
 a20:=Tryz.isAgg20
 z20:=Tryz.sizeOf20
 v20:=Tryz.zeroValue20
 t31:=Tryz.underlying97
 a31:=Tryz.isAgg97
 z31:=Tryz.sizeOf97
 v31:=Tryz.zeroValue97
 t37:=Tryz.underlying25
 a37:=Tryz.isAgg25
 z37:=Tryz.sizeOf25
 v37:=Tryz.zeroValue25
 t70:=Tryz.underlying104
 a70:=Tryz.isAgg104
 z70:=Tryz.sizeOf104
 v70:=Tryz.zeroValue104
 t72:=Tryz.underlying106
 a72:=Tryz.isAgg106
 z72:=Tryz.sizeOf106
 v72:=Tryz.zeroValue106
 t75:=Tryz.underlying108
 a75:=Tryz.isAgg108
 z75:=Tryz.sizeOf108
 v75:=Tryz.zeroValue108
 t76:=Tryz.underlying109
 a76:=Tryz.isAgg109
 z76:=Tryz.sizeOf109
 v76:=Tryz.zeroValue109
 t127:=Tryz.underlying148
 a127:=Tryz.isAgg148
 z127:=Tryz.sizeOf148
 v127:=Tryz.zeroValue148
 t164:=Tryz.underlying217
 a164:=Tryz.isAgg217
 z164:=Tryz.sizeOf217
 v164:=Tryz.zeroValue217 }
theorem Tryz.Builder_Extra_156:Builder.Extra Tryz.prog Tryz.lays156_ren:={
 sizeBuilder:=by kernel_rfl
 liesBuilder:=by kernel_rfl
 t5:=Tryz.underlying5
 a5:=Tryz.isAgg5
 z5:=Tryz.sizeOf5
 v5:=Tryz.zeroValue5
 infoByte:=by kernel_rfl
 cellsByte:=by kernel_rfl
 sizeByte:=by kernel_rfl
 neB5:=by decide }
open Go.RowKit in
theorem Tryz.strings_Join (bk o c:Nat) (xs:List ByteArray) (sep:ByteArray) (w:World) (hcells:∀ (j:Nat) x,xs[j]? = some x→w.cell? ⟨bk,o+j,none⟩=some (.string x)) (hbk:bk<w.heap.size) (hN:xs.length≤140737488355328) (hcap:xs.length≤c) (hlen:(Lib.join (xs.map (·.data.toList)) sep.data.toList).length≤140737488355328) :
  Calls Tryz.prog 79 #[.slice (some ⟨bk,o,none⟩) xs.length c,.string sep] w fun e w'=>e=.returned (.string ⟨(Lib.join (xs.map (·.data.toList)) sep.data.toList).toArray⟩)∧Below w.heap.size w w':=Any.strings_Join Tryz.lays156 Tryz.Builder_Extra_156 bk o c xs sep w hcells hbk hN hcap hlen
def Tryz.lays283_ren:Go.Shelf.Ren:=⟨fun | 283=>182 | n=>n,fun | 3=>3 | 9=>9 | 4=>4 | n=>n,fun | n=>n⟩
theorem Tryz.lays283:Go.Proofs.Lays.n283 Tryz.prog Tryz.lays283_ren:={
 mixed:=by kernel_rfl
 f283:=Tryz.func182.trans (congrArg some (by kernel_rfl))
 t3:=Tryz.underlying3
 a3:=Tryz.isAgg3
 z3:=Tryz.sizeOf3
 v3:=Tryz.zeroValue3
 t4:=Tryz.underlying4
 a4:=Tryz.isAgg4
 z4:=Tryz.sizeOf4
 v4:=Tryz.zeroValue4
 t9:=Tryz.underlying9
 a9:=Tryz.isAgg9
 z9:=Tryz.sizeOf9
 v9:=Tryz.zeroValue9 }
open Go.Lib in
theorem Tryz.internal_strconv_small (i:Nat) (h:i<100) (w:World) :
  Calls Tryz.prog 182 #[.int .i64 i] w fun e w'=>e=.returned (.string ⟨(Lib.decDigits i).toArray⟩)∧w'=w:=Any.internal_strconv_small Tryz.lays283 i h w
def Tryz.laysM284_ren:Go.Shelf.Ren:=⟨fun | 284=>183 | 129=>250 | 317=>249 | 318=>251 | n=>n,fun | 53=>23 | 3=>3 | 212=>365 | 0=>0 | 4=>4 | 46=>206 | 5=>5 | 9=>9 | n=>n,fun | 17=>2 | n=>n⟩
theorem Tryz.laysM284:Go.Proofs.LaysM.n284 Tryz.prog Tryz.laysM284_ren:={
 mixed:=by kernel_rfl
 f129:=Tryz.func250.trans (congrArg some (by kernel_rfl))
 f284:=Tryz.func183.trans (congrArg some (by kernel_rfl))
 f317:=Tryz.func249.trans (congrArg some (by kernel_rfl))
 f318:=Tryz.func251.trans (congrArg some (by kernel_rfl))
 t0:=Tryz.underlying0
 a0:=Tryz.isAgg0
 z0:=Tryz.sizeOf0
 v0:=Tryz.zeroValue0
 t3:=Tryz.underlying3
 a3:=Tryz.isAgg3
 z3:=Tryz.sizeOf3
 v3:=Tryz.zeroValue3
 t4:=Tryz.underlying4
 a4:=Tryz.isAgg4
 z4:=Tryz.sizeOf4
 v4:=Tryz.zeroValue4
 t5:=Tryz.underlying5
 a5:=Tryz.isAgg5
 z5:=Tryz.sizeOf5
 v5:=Tryz.zeroValue5
 t9:=Tryz.underlying9
 a9:=Tryz.isAgg9
 z9:=Tryz.sizeOf9
 v9:=Tryz.zeroValue9
 t46:=Tryz.underlying206
 a46:=Tryz.isAgg206
 z46:=Tryz.sizeOf206
 v46:=Tryz.zeroValue206
 t53:=Tryz.underlying23
 a53:=Tryz.isAgg23
 z53:=Tryz.sizeOf23
 v53:=Tryz.zeroValue23
 t212:=Tryz.underlying365
 a212:=Tryz.isAgg365
 z212:=Tryz.sizeOf365
 v212:=Tryz.zeroValue365
 g17:=by kernel_rfl
 i0:=by kernel_rfl
 i3:=by kernel_rfl
 i4:=by kernel_rfl
 i5:=by kernel_rfl
 i9:=by kernel_rfl
 i46:=by kernel_rfl
 i53:=by kernel_rfl
 i212:=by kernel_rfl
 m17:=by kernel_rfl }
open Go.Lib in
theorem Tryz.internal_strconv_numDigits (u:Nat) (h1:1≤u) (h2:u<18446744073709551616) (w:World) (htab:Lib.TabIs Tryz.prog w "internal/strconv.uint64pow10" .u64 Lib.pow10Tab) :
  Calls Tryz.prog 183 #[.int .u64 u] w fun e w'=>e=.returned (.int .i64 (Lib.nDigits u))∧w'=w:=Any.internal_strconv_numDigits Tryz.laysM284 u h1 h2 w htab
def Tryz.lays285_ren:Go.Shelf.Ren:=⟨fun | 285=>184 | n=>n,fun | 37=>25 | 53=>23 | 3=>3 | 4=>4 | 51=>344 | 9=>9 | 5=>5 | 0=>0 | n=>n,fun | n=>n⟩
theorem Tryz.lays285:Go.Proofs.Lays.n285 Tryz.prog Tryz.lays285_ren:={
 mixed:=by kernel_rfl
 f285:=Tryz.func184.trans (congrArg some (by kernel_rfl))
 t0:=Tryz.underlying0
 a0:=Tryz.isAgg0
 z0:=Tryz.sizeOf0
 v0:=Tryz.zeroValue0
 t3:=Tryz.underlying3
 a3:=Tryz.isAgg3
 z3:=Tryz.sizeOf3
 v3:=Tryz.zeroValue3
 t4:=Tryz.underlying4
 a4:=Tryz.isAgg4
 z4:=Tryz.sizeOf4
 v4:=Tryz.zeroValue4
 t5:=Tryz.underlying5
 a5:=Tryz.isAgg5
 z5:=Tryz.sizeOf5
 v5:=Tryz.zeroValue5
 t9:=Tryz.underlying9
 a9:=Tryz.isAgg9
 z9:=Tryz.sizeOf9
 v9:=Tryz.zeroValue9
 t37:=Tryz.underlying25
 a37:=Tryz.isAgg25
 z37:=Tryz.sizeOf25
 v37:=Tryz.zeroValue25
 t51:=Tryz.underlying344
 a51:=Tryz.isAgg344
 z51:=Tryz.sizeOf344
 v51:=Tryz.zeroValue344
 t53:=Tryz.underlying23
 a53:=Tryz.isAgg23
 z53:=Tryz.sizeOf23
 v53:=Tryz.zeroValue23 }
open Go.RowKit Go.Sort Go.Lib in
theorem Tryz.internal_strconv_formatBase10 (blk off cap:Nat) (u:Nat) (d:Array UInt8) (w:World) (hH:Holds (fun (b:UInt8)=>Value.int .u8 (b.toNat:Int)) w blk off d) (hu:u<10^d.size) (hu64:u<18446744073709551616) (hsz:d.size<4611686018427387904) :
  Calls Tryz.prog 184 #[.slice (some ⟨blk,off,none⟩) d.size cap,.int .u64 u] w fun e w' =>
   e=.returned (.tuple #[])∧∃ (n v':Nat) (dk:Array UInt8),w'=(putRow (fun (b:UInt8)=>Value.int .u8 (b.toNat:Int)) w blk off dk).drewN n∧FmtInv d.size u 0 v' dk:=Any.internal_strconv_formatBase10 Tryz.lays285 blk off cap u d w hH hu hu64 hsz
end Go.Proofs
namespace Go.Proofs.YtoifkgkandfeiaaGreatDoor
open Go.Tan Go.RowKit Go.Maps Go.Sort Go.Shelf
theorem aMl:aJ Tryz.prog 78=true:=by kernel_rfl
theorem yX:aQ Tryz.prog 106 1=some 1:=by kernel_rfl
theorem aGm:ptE Tryz.prog 148=some 5:=by kernel_rfl
theorem uJ (n:Int) (G:PM) (h0 : -9223372036854775808≤n) (h1:n≤9223372036854775807) (hP:PwG Tryz.prog G):Ct Tryz.prog 45 ([.int .i64 n]:List Value).toArray G [] (fun _ μ' u=>μ'=[]∧u=.string (aG (Lib.itoa n))):=aHj fun w hs=>Tryz.strconv_Itoa n h0 h1 w (hP.tab hs)
theorem aQJ (h:Sh) (xs:List ByteArray) (G:PM) (hs:SlR G 1 lQ h xs) (h0:xs≠[]) (hN:xs.length≤140737488355328) (hl:(Lib.join (xs.map hX) [32]).length≤140737488355328):Ct Tryz.prog 79 ([h.val xs.length,.string (aG [32])]:List Value).toArray G [] (fun _ μ' u=>μ'=[]∧u=.string (aG (Lib.join (xs.map hX) [32]))):=by
 have e1:h.val xs.length=.slice (some ⟨h.b,h.o,none⟩) xs.length h.cap:=by unfold Sh.val; rw [hs.there h0]
 rw [e1]
 refine aHi fun w hw=>?_
 obtain ⟨x,ex⟩:=dT (k:=0) (xs:=xs) (List.length_pos_iff.2 h0)
 have hc:=hs.strAt hw.sub
 have hb:h.b<w.heap.size:=by
  have h2:=hc 0 x ex
  rcases Nat.lt_or_ge h.b w.heap.size with h' | h'
  ·exact h'
  simp [World.cell?,Array.getElem?_eq_none h'] at h2
 exact Tryz.strings_Join h.b h.o h.cap xs (aG [32]) w hc hb hN hs.le hl
theorem aOC (bb:Nat) (v:Value) (G:PM):Ct Tryz.prog 78 ([.pointer (some ⟨bb,0,none⟩)]:List Value).toArray G [.blk bb (cl [.pointer none,v] 106)] (fun _ μ' u=>μ'=[.blk bb (cl [.pointer (some ⟨bb,0,none⟩),v] 106)]∧u=.tuple #[]):=fun w hs=>by
 have hb:w.heap[bb]? = some (cl [.pointer none,v] 106):=hs.own _ (List.mem_singleton.2 rfl)
 refine (Any.Builder_copyCheck_fresh { Tryz.lays156 with } Tryz.Builder_Extra_156.toX72 bb w (by simp [World.cell?,hb]) (by simp [World.shape?,hb]; rfl) (by simp [World.frozen?,hb])).mono ?_
 rintro e w' ⟨rfl,rfl⟩
 have e1:w.setCell ⟨bb,0,none⟩ (.pointer (some ⟨bb,0,none⟩))=w.setRow bb [.pointer (some ⟨bb,0,none⟩),v].toArray:=setCell_eq_setRow w bb 0 #[.pointer none,v] 106 (0,0) _ hb
 rw [e1]
 exact ⟨_,G,_,rfl,Tr.setRow hs,rfl,rfl⟩
theorem aOD (bb:Nat) (v:Value) (G:PM) (hb:PB G bb (cl [.pointer (some ⟨bb,0,none⟩),v] 106)):Ct Tryz.prog 78 ([.pointer (some ⟨bb,0,none⟩)]:List Value).toArray G [] (fun _ μ' u=>μ'=[]∧u=.tuple #[]):=fun w hs=>by
 have hb:w.heap[bb]? = some (cl [.pointer (some ⟨bb,0,none⟩),v] 106):=hs.sub _ _ hb.h
 refine (Any.Builder_copyCheck_used { Tryz.lays156 with } Tryz.Builder_Extra_156.toX72 bb w (by simp [World.cell?,hb])).mono ?_
 rintro e w' ⟨rfl,rfl⟩
 exact ⟨_,G,_,rfl,eK hs,rfl,rfl⟩
theorem aV1 (bb:Nat) (v:Value) (l:List UInt8) (s:ByteArray) (G:PM) (hv:v.oneCell'=true) (hl:l.length+s.size≤100000000):Ct Tryz.prog 43 ([.pointer (some ⟨bb,0,none⟩),.string s]:List Value).toArray G [.blk bb (cl [.pointer none,v] 106),rB v 5 (yb (aG (l)))] (fun _ μ' u=>∃ v':Value,v'.oneCell'=true∧μ'=[.blk bb (cl [.pointer (some ⟨bb,0,none⟩),v'] 106),rB v' 5 (yb (aG (l++hX s)))]∧u=.tuple #[.int .i64 (s.size:Int),.nilIface]):=by
 refine Ct.of Tryz.func43 rfl Tryz.ntmps43 rfl fun w0 hs0=>?_
 have hyl:(yb (aG l)).length=l.length:=eQ _
 have hys:(yb s).length=s.size:=eQ _
 refine .g (ka rfl (.inr rfl) aMl (aB rfl aF) (bK .here) (aOC bb v _) ?_)
 rintro _ G7 μ7 hG7 ⟨rfl,rfl⟩
 refine .g (nC rfl rfl (fZ rfl yX rfl (lO rfl gQ rfl .here (by first|exact aK rfl|rfl) ?_)))
 refine mV rfl rfl ?_
 refine apT rfl aX cE cG (.u rfl) (.u rfl) aC (by omega) ?_; intro v14 L14 ov14 eL14
 refine nC rfl rfl (fZ rfl yX rfl (iM rfl (.u rfl) (.u rfl) .here rQ aC (by first|decide|(simp only [bW,bR,cC]; omega)) (rfl) ?_))
 refine .g (ls rfl .no cE (.u rfl) (aS rfl rfl (aS rfl rfl (.nc (.ret (We.fin Tryz.results43 (.tmp rfl (.tmp rfl .nil)) (mS .here rfl (mS .here rfl mN)) ?_))))))
 rw [eL14,aLV]
 exact ⟨v14,ov14,rfl,rfl⟩
theorem aLU (bb:Nat) (v:Value) (l:List UInt8) (s:ByteArray) (G:PM) (hv:v.oneCell'=true) (hl:l.length+s.size≤100000000):Ct Tryz.prog 43 ([.pointer (some ⟨bb,0,none⟩),.string s]:List Value).toArray G [.blk bb (cl [.pointer (some ⟨bb,0,none⟩),v] 106),rB v 5 (yb (aG (l)))] (fun _ μ' u=>∃ v':Value,v'.oneCell'=true∧μ'=[.blk bb (cl [.pointer (some ⟨bb,0,none⟩),v'] 106),rB v' 5 (yb (aG (l++hX s)))]∧u=.tuple #[.int .i64 (s.size:Int),.nilIface]):=by
 refine Ct.of Tryz.func43 rfl Tryz.ntmps43 rfl fun w0 hs0=>?_
 have hyl:(yb (aG l)).length=l.length:=eQ _
 have hys:(yb s).length=s.size:=eQ _
 refine .g (kp rfl .no aMl (aB rfl aF) (Gp.add .here Gp.nil) (fun _ hle hq=>aOD bb v _ ⟨cH _ _ _⟩) ?_)
 refine .g (nC rfl rfl (fZ rfl yX rfl (lO rfl gQ rfl .here (by first|exact aK rfl|rfl) ?_)))
 refine mV rfl rfl ?_
 refine apT rfl aX cE cG (.u rfl) (.u rfl) aC (by omega) ?_; intro v14 L14 ov14 eL14
 refine nC rfl rfl (fZ rfl yX rfl (iM rfl (.u rfl) (.u rfl) .here rQ aC (by first|decide|(simp only [bW,bR,cC]; omega)) (rfl) ?_))
 refine .g (ls rfl .no cE (.u rfl) (aS rfl rfl (aS rfl rfl (.nc (.ret (We.fin Tryz.results43 (.tmp rfl (.tmp rfl .nil)) (mS .here rfl (mS .here rfl mN)) ?_))))))
 rw [eL14,aLV]
 exact ⟨v14,ov14,rfl,rfl⟩
theorem aN8 (bb:Nat) (v:Value) (l:List UInt8) (G:PM) (h0:l≠[]) (hl:l.length≤100000000):Ct Tryz.prog 46 ([.pointer (some ⟨bb,0,none⟩)]:List Value).toArray G [.blk bb (cl [.pointer (some ⟨bb,0,none⟩),v] 106),rB v 5 (yb (aG (l)))] (fun _ μ' u=>μ'=[]∧u=.string (aG l)):=by
 refine Ct.of Tryz.func46 rfl Tryz.ntmps46 rfl fun w0 hs0=>?_
 have hyl:(yb (aG l)).length=l.length:=eQ _
 have h1:0<l.length:=List.length_pos_iff.2 h0
 refine .seq (aP rfl rfl (aS rfl rfl (.nc (.seq ?_))))
 refine aAv aC (by omega) ?_; intro b9 cap9 evRB lcRB; subst evRB
 refine eT ⟨false,false⟩ aY (by kernel_rfl) ?_
 refine Wp.one 0 (by kernel_rfl) ?_
 refine mV rfl rfl (.nil (Wp.one 1 (by kernel_rfl) ?_))
 refine nC rfl rfl (.nil (Wp.one 2 (by kernel_rfl) ?_))
 refine fZ rfl yX rfl (.nil (Wp.one 3 (by kernel_rfl) ?_))
 refine lO rfl gQ rfl .here (by first|exact aK rfl|rfl) ?_
 refine .nil (Wp.one 5 (by kernel_rfl) ?_)
 refine mV rfl rfl (.nil (Wp.one 6 (by kernel_rfl) ?_))
 refine nC rfl rfl (.nil (Wp.one 7 (by kernel_rfl) ?_))
 refine fZ rfl yX rfl (.nil (Wp.b2 4 8 (by kernel_rfl) ?_ ?_))
 ·refine uSD rfl (.u rfl) (by omega) ?_
  refine .nil (Wp.one 8 (by kernel_rfl) ?_)
  refine lO rfl gQ rfl .here (by first|exact aK rfl|rfl) ?_
  refine .nil (Wp.one 9 (by kernel_rfl) ?_)
  refine lr rfl .no dW (.u rfl) aC ?_
  refine .nil (Wp.b1 10 (by kernel_rfl) ?_)
  refine uST (l:=l) rfl aGm (.u rfl) (.u (by rw [← hyl]; rfl)) h0 (by omega) aC ?_
  refine .nil (Wp.one 11 (by kernel_rfl) ?_)
  refine aS rfl rfl (.nil (Wp.last (by kernel_rfl) ?_))
  refine .code (.ret (aN Tryz.results46 (.tmp rfl .nil) ?_))
  exact ⟨rfl,rfl⟩
 refine lO rfl gQ rfl .here (by first|exact aK rfl|rfl) ?_
 refine .nil (Wp.b2 4 9 (by kernel_rfl) ?_ ?_)
 ·refine uSD rfl (.u rfl) (by omega) ?_
  refine .nil (Wp.one 9 (by kernel_rfl) ?_)
  refine lr rfl .no dW (.u rfl) aC ?_
  refine .nil (Wp.b1 10 (by kernel_rfl) ?_)
  refine uST (l:=l) rfl aGm (.u rfl) (.u (by rw [← hyl]; rfl)) h0 (by omega) aC ?_
  refine .nil (Wp.one 11 (by kernel_rfl) ?_)
  refine aS rfl rfl (.nil (Wp.last (by kernel_rfl) ?_))
  refine .code (.ret (aN Tryz.results46 (.tmp rfl .nil) ?_))
  exact ⟨rfl,rfl⟩
 refine lr rfl .no dW (.u rfl) aC ?_
 refine .nil (Wp.b1 4 (by kernel_rfl) ?_)
 refine uSD rfl (.u rfl) (by omega) ?_
 refine .nil (Wp.b1 10 (by kernel_rfl) ?_)
 refine uST (l:=l) rfl aGm (.u rfl) (.u (by rw [← hyl]; rfl)) h0 (by omega) aC ?_
 refine .nil (Wp.one 11 (by kernel_rfl) ?_)
 refine aS rfl rfl (.nil (Wp.last (by kernel_rfl) ?_))
 refine .code (.ret (aN Tryz.results46 (.tmp rfl .nil) ?_))
 exact ⟨rfl,rfl⟩
end Go.Proofs.YtoifkgkandfeiaaGreatDoor
namespace Go.Proofs.YtoifkgkandfeiaaGreatDoor
open Go.Tan Go.RowKit Go.Maps Go.Sort Go.Shelf
theorem aXT:aJ Tryz.prog 120=true:=by kernel_rfl
theorem hz0 (w:World) (T:TypeId) (nd:Nat) (hs:nd≤24):Holds (fun (b:UInt8)=>Value.int .u8 (b.toNat:Int)) (w.alloc (.cells Lib.zeros24 T)) w.heap.size 0 (Array.replicate nd (0:UInt8)):=fun j hj=>by
 have hj':j<nd:=by simpa using hj
 refine ⟨?_,World.frozen?_alloc_new _ _ _ _⟩
 rw [World.cell?_alloc_new,Lib.zeros24_at _ (by omega),getElem!_pos _ j hj]
 simp
theorem aPT (w:World) (o:Obj) (dk:Array UInt8) (k:Nat):∃ os,(putRow (fun (b:UInt8)=>Value.int .u8 (b.toNat:Int)) (w.alloc o) w.heap.size 0 dk).drewN k=grow (w.drewN k) os:=by
 rw [alloc_eq_grow]
 obtain ⟨os',_,e⟩:=putRow_grow_new (fun (b:UInt8)=>Value.int .u8 (b.toNat:Int)) w #[o] w.heap.size 0 dk (Nat.le_refl _)
 exact ⟨os',by rw [e]; rfl⟩
set_option maxHeartbeats 1000000 in
set_option maxRecDepth 100000 in
theorem aPf (u:Nat) (hu64:u<18446744073709551616) (w:World) (htab:Lib.TabIs Tryz.prog w "internal/strconv.uint64pow10" .u64 Lib.pow10Tab):Calls Tryz.prog 120 #[.int .u64 u,.int .i64 10] w (fun e w'=>e=.returned (.string ⟨(Lib.decDigits u).toArray⟩)∧∃ k os,w'=grow (w.drewN k) os):=by
 by_cases hs:u<100
 ·go_enter Tryz.func120,Tryz.ntmps120
  go_wp2_with (go_at_call 182; refine (Tryz.internal_strconv_small u hs _).mono ?_; rintro e w' ⟨rfl,rfl⟩)
  go_ret
  exact ⟨rfl,0, #[],by simp [World.drewN_zero]⟩
 have hu1:1≤u:=by omega
 have hnd20:Lib.nDigits u≤20:=by have:=Lib.numDigits_eq u hu1 hu64; split at this<;>omega
 have hal:Tryz.prog.arrayLen 290=24:=by kernel_rfl
 have hsl1:∀ W,(Instr.sliceAt 290 (.pointer (some ⟨w.heap.size,0,none⟩)) none (some (.int .i64 (Lib.nDigits u:Int))) none).run Tryz.prog W=.ok (.slice (some ⟨w.heap.size,0,none⟩) (Lib.nDigits u) 24) W:=fun W=>by
  rw [run_sliceAt_array_h W 290 ⟨w.heap.size,0,none⟩ (by kernel_rfl) .i64 (Lib.nDigits u:Int) (by omega) (by rw [hal]; omega)]
  go_simp
 have hH0:=hz0 w 290 (Lib.nDigits u) (by omega)
 have hfmt:=Tryz.internal_strconv_formatBase10 w.heap.size 0 24 u (Array.replicate (Lib.nDigits u) 0) (w.alloc (.cells Lib.zeros24 290)) hH0 (by rw [Array.size_replicate]; exact Lib.lt_pow_nDigits u) hu64 (by rw [Array.size_replicate]; omega)
 rw [Array.size_replicate] at hfmt
 have HH0:=Lib.hid hH0
 clear hH0 hal
 go_enter Tryz.func120,Tryz.ntmps120
 go_wp2_with (go_at_call 183; refine (Tryz.internal_strconv_numDigits u hu1 hu64 _ (Lib.tabIs_alloc htab _)).mono ?_; rintro e w' ⟨rfl,rfl⟩)
 go_at_call 184
 refine hfmt.mono ?_
 rintro e w' ⟨rfl,k,v',dk,rfl,hF⟩
 have hcv:(convert 25 9 (.slice (some ⟨w.heap.size,0,none⟩) (Lib.nDigits u) 24)).run Tryz.prog ((putRow (fun (b:UInt8)=>Value.int .u8 (b.toNat:Int)) (w.alloc (.cells Lib.zeros24 290)) w.heap.size 0 dk).drewN k)=.ok (.string ⟨(Lib.decDigits u).toArray⟩) ((putRow (fun (b:UInt8)=>Value.int .u8 (b.toNat:Int)) (w.alloc (.cells Lib.zeros24 290)) w.heap.size 0 dk).drewN k):=by
  have h:=run_convert_bytes_back (P:=Tryz.prog) ((putRow (fun (b:UInt8)=>Value.int .u8 (b.toNat:Int)) (w.alloc (.cells Lib.zeros24 290)) w.heap.size 0 dk).drewN k) 25 9 5 ⟨w.heap.size,0,none⟩ 24 (Lib.decDigits u) Tryz.underlying25 Tryz.underlying5 Tryz.underlying9 (fun j hj=>by
   rw [Lib.row_is_numeral hF j hj,Lib.add_plain,World.cell?_drewN]
   exact cell?_putRow (fun (b:UInt8)=>Value.int .u8 (b.toNat:Int)) _ w.heap.size 0 _ dk HH0.out (by rw [hF.size,Array.size_replicate]) j (by rw [hF.size]; rw [Lib.decDigits_length] at hj; exact hj))
  rw [Lib.decDigits_length] at h
  exact h
 go_wp2
 go_ret
 obtain ⟨os,eo⟩:=aPT w (.cells Lib.zeros24 290) dk k
 exact ⟨rfl,k,os,eo⟩
theorem aPg (u:BitVec 64) (G:PM) (hP:PwG Tryz.prog G):Ct Tryz.prog 120 ([uv .u64 u,.int .i64 10]:List Value).toArray G [] (fun _ μ' v=>μ'=[]∧v=.string (aG (Lib.decDigits u.toNat))):=aHj fun w hs=>aPf u.toNat u.isLt w (hP.tab hs)
theorem aPe (q:BitVec 64) (G:PM) (hP:PwG Tryz.prog G):Ct Tryz.prog 80 ([uv .u64 q,.int .i64 10]:List Value).toArray G [] (fun _ μ' u=>μ'=[]∧u=.string (aG (Lib.decDigits q.toNat))):=by
 refine Ct.of Tryz.func80 rfl Tryz.ntmps80 rfl fun w0 hs0=>?_
 refine .g (kV rfl aXT (aB rfl (aB rfl aF)) (aPg q _ hP) ?_)
 refine aS rfl rfl (.nc (.ret (aN Tryz.results80 (.tmp rfl .nil) ?_)))
 exact ⟨rfl,rfl⟩
end Go.Proofs.YtoifkgkandfeiaaGreatDoor
namespace Go.Proofs.YtoifkgkandfeiaaGreatDoor
open Go.Tan Go.RowKit Go.Maps Go.Sort Go.Shelf
theorem aZQ:(bL Tryz.prog 40).isSome=true:=by kernel_rfl
theorem aZP:bL Tryz.prog 40=some (61,2,32):=by kernel_rfl
theorem aA7:aQ Tryz.prog 43 0=some 0:=by kernel_rfl
theorem wN:aJ Tryz.prog 45=true:=by kernel_rfl
theorem aGL:aQ Tryz.prog 43 3=some 3:=by kernel_rfl
theorem aMJ:aQ Tryz.prog 43 2=some 2:=by kernel_rfl
theorem aXG:aQ Tryz.prog 43 4=some 4:=by kernel_rfl
theorem aWD:bY Tryz.prog 40=some none:=by kernel_rfl
theorem aWI:bY Tryz.prog 61=some (some 2):=by kernel_rfl
theorem aZL:dV Tryz.prog 61=some ([.string ByteArray.empty,.string ByteArray.empty]):=by kernel_rfl
theorem aZB:cI Tryz.prog 61=some 2:=by kernel_rfl
theorem aXH:aQ Tryz.prog 61 0=some 0:=by kernel_rfl
theorem aXI:aQ Tryz.prog 61 1=some 1:=by kernel_rfl
theorem aYq:aJ Tryz.prog 79=true:=by kernel_rfl
theorem aXF:aQ Tryz.prog 43 1=some 1:=by kernel_rfl
theorem aYs:aJ Tryz.prog 80=true:=by kernel_rfl
theorem aGM:aQ Tryz.prog 43 5=some 5:=by kernel_rfl
theorem aLp:bY Tryz.prog 41=some none:=by kernel_rfl
theorem aMw:(bL Tryz.prog 41).isSome=true:=by kernel_rfl
theorem aUz (e:EvD) (vo vk vb:Value) (r:Rep) (hp hd:Sh) (G:PM) (ho:vo.oneCell'=true) (hk9:vk.oneCell'=true) (hb9:vb.oneCell'=true) (hsp:SlR G 2 aH6 hp r.pairs) (hsd:SlR G 2 xI hd r.dones) (hr:r.ok) (hP:PwG Tryz.prog G):Ct Tryz.prog 44 ([.agg (EvD.cells e vo vk vb).toArray,.agg (Rep.cells r (hp.val r.pairs.length) (hd.val r.dones.length)).toArray]:List Value).toArray G [] (fun _ μ' u=>μ'=[]∧u=.string (aG (gN e.kind e.n r))):=by
 refine Ct.of Tryz.func44 rfl Tryz.ntmps44 rfl fun w0 hs0=>?_
 obtain ⟨hre0,hre1⟩:=hr.err
 obtain ⟨hpl,hpp⟩:=hr.pairs
 obtain ⟨hdl,hdd⟩:=hr.dones
 have hvl:=hr.value
 refine .seq (dQ rfl rfl ?_)
 refine bX rfl rfl rfl ?_; intro b2
 refine bX rfl rfl rfl ?_; intro b3
 refine .g (fZ rfl aA7 rfl (lO rfl lG rfl .here rfl ?_))
 refine cP rfl rfl rfl rfl (.g (cD rfl (fun c1=>?_) (fun c1=>?_)))
 ·have c1k:=c1
  try simp only [aD,aL,aE] at c1
  refine .g (fZ rfl aA7 rfl (lO rfl lG rfl .here rfl ?_))
  refine kV rfl wN (aB rfl aF) (uJ r.err _ hre0 hre1 hP) ?_
  refine lW (gN e.kind e.n r) rfl .no (.u rfl) (.u rfl) (by unfold gN; rw [if_neg c1]; rfl) (fun _=>by have:=xO hre0 hre1; show 6+(Lib.itoa r.err).length≤_; omega) ?_
  refine aS rfl rfl (.nc (.ret (aN Tryz.results44 (.tmp rfl .nil) ?_)))
  exact ⟨rfl,rfl⟩
 have c1k:=c1
 try simp only [aD,aL,aE] at c1
 refine .g (fZ rfl eV rfl (lO rfl cZ rfl aC (by first|exact aK rfl|rfl) ?_))
 refine .g (cP rfl rfl rfl rfl (.g (cD rfl (fun c2=>?_) (fun c2=>?_))))
 ·have c2k:=c2
  have c2:=aCC (m:=2) c2
  refine .g (fZ rfl aGL rfl (lO rfl fG rfl .here (by first|exact aK rfl|rfl) ?_))
  refine .g (cD rfl (fun c3=>?_) (fun c3=>?_))
  ·have c3k:=c3
   try simp only [aD,aL,aE] at c3
   refine .g (fZ rfl aMJ rfl (lO rfl cQ rfl .here (by first|exact aK rfl|rfl) ?_))
   refine lW (61 :: hX r.value) rfl .no (.u rfl) (.u rfl) (rfl) (fun _=>by show 1+r.value.size≤_; omega) ?_
   refine aS rfl rfl (.nc (.ret (aN Tryz.results44 (.tmp rfl .nil) ?_)))
   refine ⟨rfl,?_⟩
   unfold gN mP
   rw [if_pos c1,if_pos c2,if_pos c3k]
   rfl
  have c3k:=c3
  try simp only [aD,aL,aE] at c3
  refine .skip (.code (.seq (aP rfl rfl (aS rfl rfl (.nc (.ret (aN Tryz.results44 (.tmp rfl .nil) ?_)))))))
  refine ⟨rfl,?_⟩
  unfold gN mP
  rw [if_pos c1,if_pos c2,if_neg (by rw [c3k]; decide)]
  rfl
 have c2k:=c2
 have c2:=aCB (m:=2) (by decide) c2
 refine .g (cP rfl rfl rfl rfl (.g (cD rfl (fun c4=>?_) (fun c4=>?_))))
 ·have c4k:=c4
  have c4:=aCC (m:=3) c4
  refine .seq (aP rfl rfl (aS rfl rfl (.nc (.seq (.seq (mU 1 lQ 9 ?_))))))
  refine .g (fZ rfl aXG rfl (lO rfl aWD rfl aC rfl ?_))
  refine lE rfl aZQ rfl (mV rfl rfl (.nc (.block ?_)))
  refine aV (α:=Nat×Value) (fun gh=>[(5,true,gh.2),(29,true,.int .i64 (gh.1:Int))]) (fun gh=>[rS 1 lQ gh.2 9 ((r.pairs.take gh.1).map sU)])
   (fun gh Gl=>(gh.1≤r.pairs.length)) (fun gh=>r.pairs.length-gh.1) (0,.slice none 0 0) [(27,true,_),(28,true,_)] [_,_]
   (aA rfl (aO rfl (aA rfl (aA rfl eZ))))
   (mS .here rfl (mS .here rfl (mS .here rfl mN))) ?_ ?_
  ·(try dsimp only)<;>(first|omega|rfl|assumption|(simp; done))
  intro gh N0 Gl0 hN0 hGl0 hF0
  obtain ⟨k,v⟩:=gh; dsimp only at hF0 hN0 ⊢
  have hk:=hF0
  have hsp:=hsp.mono hGl0
  have hP:=hP.mono hGl0
  refine .g (cP rfl rfl rfl rfl (.g (cD rfl (fun c5=>?_) (fun c5=>?_))))
  ·have c5k:=c5
   try simp only [aD,aL,aE] at c5
   refine .skip (.code (.seq (.block (.seq (dI rfl rfl (ih rfl .no aZP (.u rfl) (.u rfl) (by omega) (by omega) (fun _=>hsp.nn (k:=k) (by first|omega|(simp only [Bool.and_eq_true,decide_eq_true_eq] at hc; omega)|(simp only [List.length_cons,List.length_nil]; omega))) ?_))))))
   obtain ⟨p,ep⟩:=dT (k:=k) (xs:=r.pairs) (by omega)
   have hpq:=hpp p (List.mem_of_getElem? ep)
   refine lA rfl .no aWI (.u rfl) (fun _=>(hsp.at (by omega) ep).rd) (fun _=>rfl) ?_
   refine al rfl aZL ?_; intro b7
   refine sw rfl (.u rfl) (.u rfl) rfl aZB .here rfl (qV rfl rfl) ?_
   refine .g (fZ rfl aXH rfl (lO rfl cQ rfl .here (by first|exact aK rfl|rfl) ?_))
   refine lW (hX p.1++[61]) rfl .no (.u rfl) (.u rfl) (rfl) (fun _=>by show p.1.size+1≤_; omega) ?_
   refine fZ rfl aXI rfl (lO rfl cQ rfl .here (by first|exact aK rfl|rfl) ?_)
   refine lW (nM p) rfl .no (.u rfl) (.u rfl) (by unfold nM; rw [uD,List.append_assoc]; rfl) (fun _=>by rw [dJ,List.length_append,aDt]; show p.1.size+1+p.2.size≤_; omega) ?_
   refine Go.Tan.b1 rfl mG tY (.u rfl) rfl rfl (by decide) ?_; intro b40
   refine gZ (xs:=((r.pairs.take k).map sU)) ((sU p)) rfl mG tY rfl (.u rfl) (.u rfl) aM .here (rfl) (one1 rfl) (by rw [List.length_map,List.length_take]; omega) (by rw [List.length_map,List.length_take]; unfold maxLen; omega) ?_; intro v41 ov41
   refine .g (aW (((k+1):Nat):Int) rfl rfl rfl rfl ?_)
   refine .g (aT (k+1,v41) ?_ ?_ ?_ ?_ ?_)
   ·exact (aA rfl (aO rfl (aA rfl (aA rfl eZ))))
   ·exact (mS .here (by rw [aRb sU ep]) (mS aM rfl (mS aM rfl mN)))
   ·first|omega|(dsimp only; omega)
   ·exact hGl0
   (try dsimp only)<;>(first|omega|rfl|assumption|(simp; done))
  have c5k:=c5
  try simp only [aD,aL,aE] at c5
  refine .g (lr rfl .no tX (.u rfl) .here ?_)
  refine cP rfl rfl rfl rfl (.g (cD rfl (fun c6=>?_) (fun c6=>?_)))
  ·have c6k:=c6
   try simp only [aD,aL,aE] at c6
   refine .seq (aP rfl rfl (aS rfl rfl (.nc (.ret (aN Tryz.results44 (.tmp rfl .nil) ?_)))))
   have hpe:r.pairs=[]:=by
    simp only [List.length_map,List.length_take] at c6
    exact List.eq_nil_of_length_eq_zero (by omega)
   refine ⟨rfl,?_⟩
   unfold gN mP
   rw [if_pos c1,if_neg c2,if_pos c4,if_pos hpe]
   rfl
  have c6k:=c6
  try simp only [aD,aL,aE] at c6
  refine .skip (.code (.seq ?_))
  obtain rfl:k=r.pairs.length:=by omega
  rw [List.take_length]
  have hne:r.pairs≠[]:=fun e=>by rw [e] at c6; simp at c6
  have hjn:r.pairs.map sU≠[]:=fun e=>hne (List.map_eq_nil_iff.1 e)
  have hjl:(Lib.join ((r.pairs.map sU).map hX) [32]).length≤140737488355328:=by rw [aJx]; exact aQK hpp hpl
  refine aAu .here (fun _ _=>rfl) (by intro b hb; cases hb) ?_; intro GfRS hRS hleRS evRS hsRS; subst evRS
  have hP:=hP.mono hleRS
  refine .g (kV rfl aYq (aB rfl (aB rfl aF)) (aQJ hRS (r.pairs.map sU) _ hsRS hjn (by rw [List.length_map]; omega) hjl) ?_)
  refine aS rfl rfl (.nc (.ret (aN Tryz.results44 (.tmp rfl .nil) ?_)))
  rw [aJx]
  refine ⟨rfl,?_⟩
  unfold gN mP
  rw [if_pos c1,if_neg c2,if_pos c4,if_neg hne]
  rfl
 have c4k:=c4
 have c4:=aCB (m:=3) (by decide) c4
 refine .g (cP rfl rfl rfl rfl (.g (cD rfl (fun c7=>?_) (fun c7=>?_))))
 ·have c7k:=c7
  have c7:=aCC (m:=4) c7
  refine .g (fZ rfl aXF rfl (lO rfl bI rfl .here (by first|exact aK rfl|rfl) ?_))
  refine kV rfl aYs (aB rfl (aB rfl aF)) (aPe r.n _ hP) ?_
  refine lW (aCe++Lib.decDigits r.n.toNat) rfl .no (.u rfl) (.u rfl) (rfl) (fun _=>by have:=aBr r.n.isLt; show 5+(Lib.decDigits r.n.toNat).length≤_; omega) ?_
  refine aS rfl rfl (.nc (.ret (aN Tryz.results44 (.tmp rfl .nil) ?_)))
  refine ⟨rfl,?_⟩
  unfold gN mP
  rw [if_pos c1,if_neg c2,if_neg c4,if_pos c7]
  rfl
 have c7k:=c7
 have c7:=aCB (m:=4) (by decide) c7
 refine .g (cP rfl rfl rfl rfl (.g (cD rfl (fun c8=>?_) (fun c8=>?_))))
 ·have c8k:=c8
  have c8:=aCC (m:=6) c8
  refine .g (fZ rfl tR rfl (lO rfl bA rfl aC rfl ?_))
  refine anA rfl .no (.u rfl) (.u rfl) ?_
  refine cP rfl rfl rfl rfl (.p (fz rfl (.t rfl rfl) aGL (.u rfl) (ld rfl (.t rfl rfl) fG (.s rfl) (fun hc=>Rd.own .here (by first|exact aK rfl|rfl)) ?_)))
  refine cW rfl .no (.u rfl) (.s rfl) (.g (cD rfl (fun c9=>?_) (fun c9=>?_)))
  ·have c9k:=c9
   try simp only [aD,aL,aE] at c9
   refine .seq (aP rfl rfl (aS rfl rfl (.nc (.ret (aN Tryz.results44 (.tmp rfl .nil) ?_)))))
   refine ⟨rfl,?_⟩
   unfold gN mP
   rw [if_pos c1,if_neg c2,if_neg c4,if_neg c7,if_pos c8,if_pos (aSE c9k)]
   rfl
  have c9k:=c9
  try simp only [aD,aL,aE] at c9
  refine .g (fZ rfl tR rfl (lO rfl bA rfl aC rfl ?_))
  refine anA rfl .no (.u rfl) (.u rfl) ?_
  refine cP rfl rfl rfl rfl (.p (fz rfl (.f rfl rfl) aGM (.u rfl) (ld rfl (.f rfl rfl) aLp (.s rfl) (fun hc=>Rd.own .here rfl) ?_)))
  refine ln rfl (.f rfl rfl) aMw (.s rfl) (cp rfl (.f rfl rfl) (.s rfl) (.u rfl) rfl (cF rfl .no (.u rfl) (.s rfl) (.g (cD rfl (fun c10=>?_) (fun c10=>?_)))))
  ·have c10k:=c10
   try simp only [aD,aL,aE] at c10
   refine .seq (aP rfl rfl (aS rfl rfl (.nc (.ret (aN Tryz.results44 (.tmp rfl .nil) ?_)))))
   refine ⟨rfl,?_⟩
   unfold gN mP
   rw [if_pos c1,if_neg c2,if_neg c4,if_neg c7,if_pos c8,if_neg (aJe c9k),if_pos (aSG c10k)]
   rfl
  have c10k:=c10
  try simp only [aD,aL,aE] at c10
  refine .skip (.blk (.code (.seq (aP rfl rfl (aS rfl rfl (.nc (.ret (aN Tryz.results44 (.tmp rfl .nil) ?_))))))))
  refine ⟨rfl,?_⟩
  unfold gN mP
  rw [if_pos c1,if_neg c2,if_neg c4,if_neg c7,if_pos c8,if_neg (aJe c9k),if_neg (aSF c10k)]
  rfl
 have c8k:=c8
 have c8:=aCB (m:=6) (by decide) c8
 refine .skip (.blk (.code (.seq (aP rfl rfl (aS rfl rfl (.nc (.ret (aN Tryz.results44 (.tmp rfl .nil) ?_))))))))
 refine ⟨rfl,?_⟩
 unfold gN mP
 rw [if_pos c1,if_neg c2,if_neg c4,if_neg c7,if_neg c8]
 rfl
end Go.Proofs.YtoifkgkandfeiaaGreatDoor
namespace Go.Proofs.YtoifkgkandfeiaaGreatDoor
open Go.Tan Go.RowKit Go.Maps Go.Sort Go.Shelf
theorem aGy:bL Tryz.prog 41=some (73,2,16):=by kernel_rfl
theorem aZG:dV Tryz.prog 106=some ([.pointer none,.slice none 0 0]):=by kernel_rfl
theorem oV:bY Tryz.prog 43=some (some 6):=by kernel_rfl
theorem aYi:aJ Tryz.prog 44=true:=by kernel_rfl
theorem aGd:aJ Tryz.prog 43=true:=by kernel_rfl
theorem aWJ:bY Tryz.prog 73=some (some 2):=by kernel_rfl
theorem aZM:dV Tryz.prog 73=some ([.int .i64 0,.int .i64 0]):=by kernel_rfl
theorem aZC:cI Tryz.prog 73=some 2:=by kernel_rfl
theorem aXJ:aQ Tryz.prog 73 0=some 0:=by kernel_rfl
theorem aXK:aQ Tryz.prog 73 1=some 1:=by kernel_rfl
theorem aYj:aJ Tryz.prog 46=true:=by kernel_rfl
theorem aVr (bb:Nat) (s:ByteArray) (G:PM) (hl:s.size≤100000000):Ct Tryz.prog 43 ([.pointer (some ⟨bb,0,none⟩),.string s]:List Value).toArray G [.blk bb (cl [.pointer none,.slice none 0 0] 106),rB (.slice none 0 0) 5 []] (fun _ μ' u=>∃ v':Value,v'.oneCell'=true∧μ'=[.blk bb (cl [.pointer (some ⟨bb,0,none⟩),v'] 106),rB v' 5 (yb (aG (hX s)))]∧u=.tuple #[.int .i64 (s.size:Int),.nilIface]):=by
 have h:=aV1 bb (.slice none 0 0) [] s G rfl (by rw [List.length_nil,Nat.zero_add]; exact hl)
 rw [aV3,List.nil_append] at h
 exact h
theorem aFb (e:EvD) (vo vk vb:Value) (r:Rep) (hp hd:Sh) (G:PM) (ho:vo.oneCell'=true) (hk9:vk.oneCell'=true) (hb9:vb.oneCell'=true) (hsp:SlR G 2 aH6 hp r.pairs) (hsd:SlR G 2 xI hd r.dones) (hr:r.ok) (hP:PwG Tryz.prog G):Ct Tryz.prog 20 ([.agg (EvD.cells e vo vk vb).toArray,.agg (Rep.cells r (hp.val r.pairs.length) (hd.val r.dones.length)).toArray]:List Value).toArray G [] (fun _ μ' u=>μ'=[]∧u=.string (aG (uZ e.kind e.n r))):=by
 refine Ct.of Tryz.func20 rfl Tryz.ntmps20 rfl fun w0 hs0=>?_
 obtain ⟨hre0,hre1⟩:=hr.err
 obtain ⟨hpl,hpp⟩:=hr.pairs
 obtain ⟨hdl,hdd⟩:=hr.dones
 have hvl:=hr.value
 obtain ⟨htl,htn⟩:=aUy (k:=e.kind) (n:=e.n) hr
 refine .seq (dQ rfl rfl ?_)
 refine bX rfl rfl rfl ?_; intro b2
 refine bX rfl rfl rfl ?_; intro b3
 refine aS rfl rfl (.nc (.seq (aP rfl rfl ?_)))
 refine al rfl aZG ?_; intro b5
 refine .nil (.code (.seq (aCt 5 ?_)))
 refine .g (lA rfl .no bU (.u rfl) (fun _=>RdN.part (n:=11) (cs':=EvD.cells e vo vk vb) bG (rfl)) (fun _=>rfl) (lA rfl .no oV (.u rfl) (fun _=>RdN.part (n:=6) (cs':=Rep.cells r (hp.val r.pairs.length) (hd.val r.dones.length)) aM (rfl)) (fun _=>rfl) (kV rfl aYi (aB rfl (aB rfl aF)) (aUz e vo vk vb r hp hd _ ho hk9 hb9 hsp hsd hr hP) ?_)))
 refine ka rfl (.inr rfl) aGd (aB rfl (aB rfl aF)) (eI aC .here) (aVr b5 (aG (gN e.kind e.n r)) _ (by rw [dJ]; omega)) ?_
 rintro _ G11 μ11 hG11 ⟨v11,ov11,rfl,rfl⟩
 have hsd:=hsd.mono hG11
 have hP:=hP.mono hG11
 refine .g (fZ rfl aGM rfl (lO rfl aLp rfl aM rfl ?_))
 refine lE rfl aMw rfl (mV rfl rfl (.nc (.block ?_)))
 refine aV (α:=Nat×Value) (fun gh=>[(15,true,.int .i64 (gh.1:Int))]) (fun gh=>[.blk b5 (cl [.pointer (some ⟨b5,0,none⟩),gh.2] 106),rB gh.2 5 (yb (aG (gN e.kind e.n r++(r.dones.take gh.1).flatMap iQ)))])
  (fun gh Gl=>(gh.1≤r.dones.length)∧(gh.2.oneCell'=true)) (fun gh=>r.dones.length-gh.1) (0,v11) [(5,true,_),(13,true,_),(14,true,_)] [_,_]
  (aO rfl (aA rfl (aA rfl (aA rfl eZ))))
  (mS .here rfl (mS .here (by rw [List.take_zero,List.flatMap_nil,List.append_nil]; rfl) (mS .here rfl (mS .here rfl mN)))) ?_ ?_
 ·refine ⟨?_,?_⟩
  ·(try dsimp only)<;>(first|omega|rfl|assumption|(simp; done))
  (try dsimp only)<;>(first|omega|rfl|assumption|(simp; done))
 intro gh N0 Gl0 hN0 hGl0 hF0
 obtain ⟨k,v⟩:=gh; dsimp only at hF0 hN0 ⊢
 obtain ⟨hk,ov⟩:=hF0
 have hsd:=hsd.mono hGl0
 have hP:=hP.mono hGl0
 refine .g (cP rfl rfl rfl rfl (.g (cD rfl (fun c1=>?_) (fun c1=>?_))))
 ·have c1k:=c1
  try simp only [aD,aL,aE] at c1
  refine .skip (.code (.seq (.block (.seq (dI rfl rfl (ih rfl .no aGy (.u rfl) (.u rfl) (by omega) (by omega) (fun _=>hsd.nn (k:=k) (by first|omega|(simp only [Bool.and_eq_true,decide_eq_true_eq] at hc; omega)|(simp only [List.length_cons,List.length_nil]; omega))) ?_))))))
  obtain ⟨d,ed⟩:=dT (k:=k) (xs:=r.dones) (by omega)
  obtain ⟨sG,hd2⟩:=hdd d (List.mem_of_getElem? ed)
  have hq1:=xO sG.1 sG.2
  have hq2:=xO hd2.1 hd2.2
  have hdl1:=aD6 (l:=r.dones.take k) (fun x hx=>hdd x (List.mem_of_mem_take hx))
  have hdl2:(r.dones.take k).length≤k:=by rw [List.length_take]; omega
  have hdl3:=aHw (d:=d) ⟨sG,hd2⟩
  refine lA rfl .no aWJ (.u rfl) (fun _=>(hsd.at (by omega) ed).rd) (fun _=>rfl) ?_
  refine al rfl aZM ?_; intro b7
  refine sw rfl (.u rfl) (.u rfl) rfl aZC .here rfl (qV rfl rfl) ?_
  refine .nil (.code (eT ⟨true,false⟩ aY (by kernel_rfl) ?_))
  refine Wp.one 0 (by kernel_rfl) ?_
  refine fZ rfl aXJ rfl (.nil (Wp.one 1 (by kernel_rfl) ?_))
  refine lO rfl bA rfl .here rfl ?_
  refine .nil (Wp.one 5 (by kernel_rfl) ?_)
  refine fZ rfl aXK rfl (.nil (Wp.b2 2 6 (by kernel_rfl) ?_ ?_))
  ·refine kV rfl wN (aB rfl aF) (uJ d.1 _ sG.1 sG.2 hP) ?_
   refine .nil (Wp.one 3 (by kernel_rfl) ?_)
   refine lW (32 :: Lib.itoa d.1) rfl .no (.u rfl) (.u rfl) (rfl) (fun _=>by show 1+(Lib.itoa d.1).length≤_; omega) ?_
   refine .nil (Wp.one 4 (by kernel_rfl) ?_)
   refine lW (32 :: (Lib.itoa d.1++[58])) rfl .no (.u rfl) (.u rfl) (rfl) (fun _=>by show (Lib.itoa d.1).length+1+1≤_; omega) ?_
   refine .nil (Wp.one 6 (by kernel_rfl) ?_)
   refine lO rfl lG rfl .here rfl ?_
   refine .nil (Wp.b1 7 (by kernel_rfl) ?_)
   refine kV rfl wN (aB rfl aF) (uJ d.2 _ hd2.1 hd2.2 hP) ?_
   refine .nil (Wp.one 8 (by kernel_rfl) ?_)
   refine lW (iQ d) rfl .no (.u rfl) (.u rfl) (by unfold iQ; rw [uD,uD]; simp) (fun _=>by rw [dJ,dJ]; simp only [List.length_cons,List.length_append,List.length_nil]; omega) ?_
   refine .nil (Wp.b1 9 (by kernel_rfl) ?_)
   refine ka rfl (.inl rfl) aGd (aB rfl (aB rfl aF)) (eI aC aC) (aLU b5 v (gN e.kind e.n r++(r.dones.take k).flatMap iQ) (aG (iQ d)) _ ov (by rw [dJ,List.length_append]; omega)) ?_
   rintro _ G28 μ28 hG28 ⟨v28,ov28,rfl,rfl⟩
   have hP:=hP.mono hG28
   refine .nil (Wp.last (by kernel_rfl) ?_)
   refine .g (aW (((k+1):Nat):Int) rfl rfl rfl rfl ?_)
   refine .g (aT (k+1,v28) ?_ ?_ ?_ ?_ ?_)
   ·exact (aO rfl (aA rfl (aA rfl (aA rfl eZ))))
   ·exact (mS .here rfl (mS .here (by rw [uD,List.append_assoc,aIU iQ ed]) (mS aC rfl (mS aC rfl mN))))
   ·first|omega|(dsimp only; omega)
   ·exact (hGl0).trans hG28
   refine ⟨?_,?_⟩
   ·(try dsimp only)<;>(first|omega|rfl|assumption|(simp; done))
   (try dsimp only)<;>(exact ov28)
  refine lO rfl lG rfl .here rfl ?_
  refine .nil (Wp.b1 2 (by kernel_rfl) ?_)
  refine kV rfl wN (aB rfl aF) (uJ d.1 _ sG.1 sG.2 hP) ?_
  refine .nil (Wp.one 3 (by kernel_rfl) ?_)
  refine lW (32 :: Lib.itoa d.1) rfl .no (.u rfl) (.u rfl) (rfl) (fun _=>by show 1+(Lib.itoa d.1).length≤_; omega) ?_
  refine .nil (Wp.one 4 (by kernel_rfl) ?_)
  refine lW (32 :: (Lib.itoa d.1++[58])) rfl .no (.u rfl) (.u rfl) (rfl) (fun _=>by show (Lib.itoa d.1).length+1+1≤_; omega) ?_
  refine .nil (Wp.b1 7 (by kernel_rfl) ?_)
  refine kV rfl wN (aB rfl aF) (uJ d.2 _ hd2.1 hd2.2 hP) ?_
  refine .nil (Wp.one 8 (by kernel_rfl) ?_)
  refine lW (iQ d) rfl .no (.u rfl) (.u rfl) (by unfold iQ; rw [uD,uD]; simp) (fun _=>by rw [dJ,dJ]; simp only [List.length_cons,List.length_append,List.length_nil]; omega) ?_
  refine .nil (Wp.b1 9 (by kernel_rfl) ?_)
  refine ka rfl (.inl rfl) aGd (aB rfl (aB rfl aF)) (eI aC aC) (aLU b5 v (gN e.kind e.n r++(r.dones.take k).flatMap iQ) (aG (iQ d)) _ ov (by rw [dJ,List.length_append]; omega)) ?_
  rintro _ G28 μ28 hG28 ⟨v28,ov28,rfl,rfl⟩
  refine .nil (Wp.last (by kernel_rfl) ?_)
  refine .g (aW (((k+1):Nat):Int) rfl rfl rfl rfl ?_)
  refine .g (aT (k+1,v28) ?_ ?_ ?_ ?_ ?_)
  ·exact (aO rfl (aA rfl (aA rfl (aA rfl eZ))))
  ·exact (mS .here rfl (mS .here (by rw [uD,List.append_assoc,aIU iQ ed]) (mS aC rfl (mS aC rfl mN))))
  ·first|omega|(dsimp only; omega)
  ·exact (hGl0).trans hG28
  refine ⟨?_,?_⟩
  ·(try dsimp only)<;>(first|omega|rfl|assumption|(simp; done))
  (try dsimp only)<;>(exact ov28)
 have c1k:=c1
 try simp only [aD,aL,aE] at c1
 refine .g (ka rfl (.inr rfl) aYj (aB rfl aF) (eI .here .here) (aN8 b5 v (gN e.kind e.n r++(r.dones.take k).flatMap iQ) _ (by simp [htn]) (by have hdl1:=aD6 (l:=r.dones.take k) (fun x hx=>hdd x (List.mem_of_mem_take hx)); have hdl2:(r.dones.take k).length≤k:=(by rw [List.length_take]; omega); rw [List.length_append]; omega)) ?_)
 rintro _ G30 μ30 hG30 ⟨rfl,rfl⟩
 refine aS rfl rfl (.nc (.ret (aN Tryz.results20 (.tmp rfl .nil) ?_)))
 obtain rfl:k=r.dones.length:=by omega
 rw [List.take_length]
 exact ⟨rfl,rfl⟩
end Go.Proofs.YtoifkgkandfeiaaGreatDoor
namespace Go.Proofs.YtoifkgkandfeiaaGreatDoor
open Go.Tan Go.RowKit Go.Maps Go.Sort Go.Shelf
set_option maxHeartbeats 4000000 in
theorem aHo (bx bm room bd bt held bn:Nat) (root:Nat→Y) (o:Opts) (v0:Value) (F:List Fi) (h:Sh) (l:List Opn) (o1:BitVec 64) (G:PM) (hD:DkR F 3) (hnm:F.map Fi.nm=[bP 3 0,bP 4 0]) (hz:cR F≤2000) (hr:5000≤room) (hr9:room≤1000000000) (hmem:0<o.mem) (hs:SlR G 3 Opn.cells h l) (hl:l.length=1∨l.length=2) (hok:∀ o∈l,o.ok) (hord:l.length=2→lt (l.getD 0 Opn.zero).user (l.getD 1 Opn.zero).user=true) (hK:RdNP G 6 0 (wa 64 kW)):Ct Tryz.prog 168 ([pt bx,h.val l.length,.bool true]:List Value).toArray G [.blk bx (cl (Db.cells (eH bd bt root o 1#64 held bn)) 165),.blk bd (cl (cS bm room 5) 118),.blk bm (mO (F.map Fi.fe) 3),.blk bn (cl [v0,.int .i64 ((0:Nat):Int)] 225),rS 16 Nd.cells v0 249 [Nd.z],.blk bt (cl [uv .u64 1#64,uv .u64 o1] 87)] (fun _ μ' u=>∃ (bb m cap sz:Nat) (F':List Fi) (nn:BitVec 64),m=(cB (bT 0 l) l.length).length∧μ'=[.blk bx (cl (Db.cells { eH bd bt root o 1#64 held bn with lg:=⟨⟨1#8,0#8,0#64,1#64,1#64⟩,nn,true⟩,seq:=(0#64+BitVec.ofInt 64 ((l.length:Nat):Int)) }) 165),.blk bd (cl (cS bm room 7) 118),.blk bm (mO (F'.map Fi.fe) 4),.blk bn (cl [.slice (some ⟨bb,0,none⟩) m cap,.int .i64 ((sz:Nat):Int)] 225),rS 16 Nd.cells (.slice (some ⟨bb,0,none⟩) m cap) 249 (cB (bT 0 l) l.length),.blk bt (cl [uv .u64 2#64,uv .u64 o1] 87)]∧u=.int .i64 0):=by
 refine Ct.of Tryz.func168 rfl Tryz.ntmps168 rfl fun w0 hs0=>?_
 refine .seq (aP rfl rfl ?_)
 refine al rfl aBS ?_; intro b6
 refine .g (kp rfl .no aMo (aB rfl aF) (Gp.add aC Gp.nil) (fun _ hle hq=>aK1 bx (eH bd bt root o 1#64 held bn) _ ⟨cH _ _ _⟩) (.g (cP rfl rfl rfl rfl (.g (cD rfl (fun c1=>?_) (fun c1=>?_))))))
 ·have c1k:=c1
  exact absurd c1 (by decide)
 have c1k:=c1
 try simp only [aD,aL,aE] at c1
 refine .skip (.code (.seq (Wk.defers [0] 1 (DQ.d ⟨89,[.pointer (some ⟨bx,0,none⟩),.pointer (some ⟨b6,0,none⟩)],[]⟩) (fun _ _ _ _=>False) (fun _ _ _ _ _ _ hq=>hq.elim) rfl rfl ?_)))
 refine mV rfl rfl (.nil ⟨DefOp.fn rfl (aB rfl (aB rfl aF)),?_⟩)
 refine .g (nC rfl rfl (fZ rfl tO rfl (lO rfl bI rfl aC rfl ?_)))
 refine bw (k:=.u64) (b:=1#64) rfl .no rfl (.u rfl) (.u rfl) rfl (.p (kc rfl aX2 (aB rfl (aB rfl aF)) (aNw h l _ hs hl hok) ?_))
 rintro _ G31 μ31 hG31 ⟨s31,L31,lL31,rfl,rfl,hs31⟩
 have lL31:L31.length≤140:=by rcases hl with e | e<;>rw [e] at lL31<;>omega
 have hK:=hK.mono hG31
 have hs:=hs.mono hG31
 refine .p (eX rfl rfl rfl (eX rfl rfl rfl (.g (cP rfl rfl rfl rfl (.g (cD rfl (fun c2=>?_) (fun c2=>?_)))))))
 ·have c2k:=c2
  exact absurd c2 (by decide)
 have c2k:=c2
 try simp only [aD,aL,aE] at c2
 refine .g (lE rfl dW rfl (cP rfl rfl rfl rfl (.g (cD rfl (fun c3=>?_) (fun c3=>?_)))))
 ·have c3k:=c3
  have:=of_decide_eq_true c3; omega
 have c3k:=c3
 try simp only [aD,aL,aE] at c3
 refine .g (kp rfl .no aX3 (aB rfl aF) (Gp.add eN (Gp.add aC Gp.nil)) (fun _ hle hq=>aU3 bx (eH bd bt root o 1#64 held bn) v0 0 _ ⟨hq.1 _ _ (cH _ _ _)⟩ ⟨cH _ _ _⟩ hmem) (.nc (.seq (mR rfl rfl ?_))))
 refine Go.Tan.b1 rfl aX cG (.u rfl) rfl rfl (by decide) ?_; intro b42
 refine mV rfl rfl ?_
 refine apB [0#8] rfl aX cG (.u rfl) rfl rfl (.u rfl) .here hs31.sc (by show 1+L31.length≤_; omega) ?_; intro v44 L44 ov44 eL44
 have lL44:L44.length≤150:=by rw [eL44]; simp; omega
 refine Go.Tan.b1 (cs:=[v44]) rfl jZ oE (.u rfl) (aBh ov44) rfl (by decide) ?_; intro b45
 refine aS rfl rfl (.nc (.seq (.seq ?_)))
 refine tF aC (cM aM rfl (cM aM rfl (cM aM rfl (cM aM rfl (cM aM rfl (cM aM rfl (jH))))))) ?_; intro GfR44 hR44 hleR44 evR44 hsR44; subst evR44
 have hK:=hK.mono hleR44
 have hs:=hs.mono hleR44
 refine aLI (enc:=aBw) [(hR44,L44)] 1 .here rfl rfl (fun _ _=>rfl) (by decide) ?_
 refine .g (cD rfl (fun c4=>?_) (fun c4=>?_))
 ·have c4k:=c4
  try simp only [aD,aL,aE] at c4
  refine Wk.rg [0,1,2,3,4,5,6,7,8,9,10,11] rfl rfl (mV rfl rfl ?_)
  refine Go.Tan.b1 rfl aX cG (.u rfl) rfl rfl (by decide) ?_; intro b48
  refine .p (nC rfl rfl (fZ rfl aA3 rfl (lO rfl yW rfl bG rfl ?_)))
  refine kp rfl .no aDK (aB rfl aF) (Gp.add rG Gp.nil) (fun _ hle hq=>aCK bt 1#64 o1 _ ⟨cH _ _ _⟩) (bw (k:=.u64) (b:=1#64) rfl .no rfl (.u rfl) (.u rfl) rfl (ka rfl (.inr rfl) wM (aB rfl (aB rfl (aB rfl aF))) (bK .here) (tI fun hle=>Ct.frzB (tJ [1#8] ⟨some ⟨b48,0,none⟩,1⟩ (1#64+1#64) 8 _ (gX (xs:=[1#8]) (cH _ _ _) (fun _ _=>rfl) (Nat.le_refl 1)) (by decide) (by decide))) ?_))
  rintro _ G55 μ55 hG55 ⟨h55,L55,eL55,rfl,rfl,hs55⟩
  have lL55:L55.length=9:=by rw [eL55,List.length_append,oG]; rfl
  have hK:=hK.mono hG55
  have hs:=hs.mono hG55
  have hsR44:=hsR44.mono hG55
  refine Go.Tan.b1 rfl jZ oE (.u rfl) rfl rfl (by decide) ?_; intro b56
  refine gZ (xs:=[(hR44,L44)]) ((h55,L55)) rfl jZ oE rfl (.u rfl) (.u rfl) aC .here (rfl) (one1 rfl) (by show (1+1)*24≤_; decide) (by show 1+1≤maxLen; decide) ?_; intro v57 ov57
  refine aS rfl rfl (.nc (.seq ?_))
  obtain ⟨rs,ers⟩ : ∃ rs:List (Sh×List Y),rs=[(hR44,L44)]++[(h55,L55)]:=⟨_,rfl⟩
  rw [← ers]
  have hrl:rs.length=2:=by rw [ers]; rfl
  have hAr:=aFo (aFo AllS.nil hsR44) hs55
  rw [List.nil_append,←ers] at hAr
  have hpl:∀ p∈rs,p.2.length≤150:=by rw [ers]; intro p hp; simp at hp; rcases hp with rfl|rfl; (show L44.length≤150; omega); (show L55.length≤150; omega)
  refine aAu .here (fun _ _=>rfl) (cM aM rfl (cM aM rfl (cM aM rfl (cM aM rfl (cM aM rfl (cM aM rfl (jH))))))) ?_; intro GfRR hRR hleRR evRR hsRR; subst evRR
  have hK:=hK.mono hleRR
  have hs:=hs.mono hleRR
  have hAr:=hAr.mono hleRR
  have hsRR:=SlP.of hsRR hAr
  refine .g (nC rfl rfl (fZ rfl nA rfl (fA rfl aA2 rfl (lO rfl bI rfl aM rfl ?_))))
  refine cP rfl rfl rfl rfl (.g (cD rfl (fun c5=>?_) (fun c5=>?_)))
  ·have c5k:=c5
   try simp only [aD,aL,aE] at c5
   refine .g (nC rfl rfl (fZ rfl nA rfl (fA rfl wF rfl (lA rfl .no rL (.u rfl) (fun _=>RdN.part (n:=5) (cs':=[V 1#8,V 0#8,uv .u64 0#64,uv .u64 1#64,uv .u64 1#64]) aM (rfl)) (fun _=>rfl) ?_))))
   refine kc rfl aBB (aB rfl aF) (mX (aAX ⟨1#8,0#8,0#64,1#64,1#64⟩ _)) ?_
   rintro v69 G69 μ69 hG69 ⟨L69,ov69,eL69,rfl⟩
   have hK:=hK.mono hG69
   have hs:=hs.mono hG69
   have hsRR:=hsRR.mono hG69
   refine .g (lE rfl aBM rfl (mV rfl rfl (.nc (.block ?_))))
   refine aV (α:=Nat×Value×List Y) (fun gh=>[(11,true,gh.2.1),(72,true,.int .i64 (gh.1:Int))]) (fun gh=>[rB gh.2.1 5 gh.2.2])
    (fun gh Gl=>(gh.1≤rs.length)∧(gh.2.2.length≤30+600*gh.1)) (fun gh=>rs.length-gh.1) (0,v69,L69) [(0,true,_),(1,true,_),(2,true,_),(6,true,_),(10,true,_),(70,true,_),(71,true,_)] [_,_,_,_,_,_,_,_]
    (aA rfl (aO rfl (aA rfl (aA rfl (aA rfl (aA rfl (aA rfl (aA rfl (aA rfl eZ)))))))))
    (mS .here rfl (mS .here rfl (mS .here rfl (mS .here rfl (mS .here rfl (mS .here rfl (mS .here rfl (mS .here rfl (mS .here rfl mN))))))))) ?_ ?_
   ·refine ⟨?_,?_⟩
    ·(try dsimp only)<;>(first|omega|rfl|assumption|(simp; done))
    (try dsimp only)<;>(rw [eL69,oI]; omega)
   intro gh N0 Gl0 hN0 hGl0 hF0
   obtain ⟨k,v,LO⟩:=gh; dsimp only at hF0 hN0 ⊢
   obtain ⟨hk,hLO⟩:=hF0
   have hK:=hK.mono hGl0
   have hs:=hs.mono hGl0
   have hsRR:=hsRR.mono hGl0
   refine .g (cP rfl rfl rfl rfl (.g (cD rfl (fun c6=>?_) (fun c6=>?_))))
   ·have c6k:=c6
    try simp only [aD,aL,aE] at c6
    refine .skip (.code (.seq (.block (.seq (mR rfl rfl (mV rfl rfl (ih rfl .no jZ (.u rfl) (.u rfl) (by omega) (by omega) (fun _=>hsRR.sl.nn (k:=k) (by omega)) ?_)))))))
    obtain ⟨p76,ep76⟩:=dT (k:=k) (xs:=rs) (by omega)
    have hq76:=hsRR.get ep76
    refine lN rfl gQ rfl ((hsRR.at (k) (by omega) ep76).rd) ?_
    refine .g (bZ (mc:=⟨true,false⟩) [0,1,2,3,4,5,6,7,8,9,10,11,12,13,14,15,16,17,18,19,20,21,22,23] aY (by kernel_rfl) ?_)
    refine .p (nC rfl rfl (fZ rfl aMC rfl (lA rfl .no fF (.u rfl) (fun _=>RdN.part (n:=32) (cs':=ba 32 root) bG (rfl)) (fun _=>(bR _ _)) ?_)))
    refine .p (nC rfl rfl (fZ rfl nA rfl (fA rfl wF rfl (lA rfl .no rL (.u rfl) (fun _=>RdN.part (n:=5) (cs':=[V 1#8,V 0#8,uv .u64 0#64,uv .u64 1#64,uv .u64 1#64]) bG (rfl)) (fun _=>rfl) ?_))))
    refine .p (nC rfl rfl (fZ rfl nA rfl (fA rfl aA2 rfl (lO rfl bI rfl bG rfl ?_))))
    refine .p (ci rfl .no rfl jC (.u rfl) ?_)
    refine bw (k:=.u64) rfl .no rfl (.u rfl) (.u rfl) rfl (.p (kc rfl aMY (aB rfl (aB rfl (aB rfl (aB rfl aF)))) (aLB root ⟨1#8,0#8,0#64,1#64,1#64⟩ _ p76.2 p76.1 _ hq76 hK) ?_))
    rintro _ G96 μ96 hG96 ⟨vW,LW,eW,hLW,rfl,rfl⟩
    have hp76:=hpl p76 (List.mem_of_getElem? ep76)
    obtain ⟨rfl,lLW⟩:=aIu (by omega) hLW
    have hs:=hs.mono hG96
    refine .p (eX rfl rfl rfl (eX rfl rfl rfl (.g (kV rfl tS (aB rfl aF) (sR _) ?_))))
    refine .nil (.code ?_)
    refine vV .here ?_; intro sRW bbRW evRW lcRW oaRW; subst evRW
    refine .g (eY rfl aX cG (.u rfl) (.u rfl) aC (wV .here oaRW) (by (try simp only [cC,cY]); omega) ?_)
    intro v103 L103 ov103 eL103
    have lL103:L103.length=LO.length+LW.length:=by rw [eL103,List.length_append]
    refine .g (aW (((k+1):Nat):Int) rfl rfl rfl rfl ?_)
    refine .g (aT (k+1,v103,L103) ?_ ?_ ?_ ?_ ?_)
    ·exact (aA rfl (aO rfl (aA rfl (aA rfl (aA rfl (aA rfl (aA rfl (aA rfl (aA rfl eZ)))))))))
    ·exact (mS .here rfl (mS aC rfl (mS aC rfl (mS aC rfl (mS aC rfl (mS aC rfl (mS aC rfl (mS aC rfl (mS aC rfl mN)))))))))
    ·first|omega|(dsimp only; omega)
    ·exact (hGl0).trans hG96
    refine ⟨?_,?_⟩
    ·(try dsimp only)<;>(first|omega|rfl|assumption|(simp; done))
    (try dsimp only)<;>(rw [lL103]; omega)
   have c6k:=c6
   try simp only [aD,aL,aE] at c6
   refine .exit (.xcode (.xlp (.xblk (.code (.seq ?_)))))
   refine Wk.jn (α:=List Fi) (fun F3=>[]) (fun F3=>[.blk bd (cl (cS bm room 6) 118),.blk bm (mO (F3.map Fi.fe) 4)]) (fun F3 Gl=>(DkR F3 4)∧(∃ f,cV (bP 1 1) F3=some f)) [(0,true,_),(1,true,_),(2,true,_),(6,true,_),(10,true,_)] [_,_,_,_,_,_]
    (aA rfl (aA rfl (aA rfl (aA rfl (aA rfl eZ))))) (mS aC rfl (mS aC rfl (mS aC rfl (mS bG rfl (mS bG rfl (mS bG rfl mN)))))) ?_ ?_
   ·refine eT ⟨true,false⟩ aY (by kernel_rfl) ?_
    refine Wp.one 0 (by kernel_rfl) ?_
    refine mV rfl rfl (.nil (Wp.one 1 (by kernel_rfl) ?_))
    refine nC rfl rfl (.nil (Wp.one 2 (by kernel_rfl) ?_))
    refine fZ rfl yZ rfl (.nil (Wp.one 4 (by kernel_rfl) ?_))
    refine mV rfl rfl (.nil (Wp.one 5 (by kernel_rfl) ?_))
    refine nC rfl rfl (.nil (Wp.one 6 (by kernel_rfl) ?_))
    refine fZ rfl nA rfl (.nil (Wp.one 8 (by kernel_rfl) ?_))
    refine mV rfl rfl (.nil (Wp.b2 3 7 (by kernel_rfl) ?_ ?_))
    ·refine lO rfl tK rfl bG rfl ?_
     refine .nil (Wp.b1 7 (by kernel_rfl) ?_)
     refine kp rfl .no wJ (aB rfl aF) (Gp.add bG Gp.nil) (fun _ hle hq=>uE bx 60 (sA 1#64 0#64) _ (PB.rdn (m:=7) ⟨cH _ _ _⟩ rfl) (by show (1#64:BitVec 64).toNat<10; decide)) ?_
     refine .nil (Wp.b1 9 (by kernel_rfl) ?_)
     refine ka rfl (.inl rfl) aGV (aB rfl (aB rfl (aB rfl aF))) (jI .here bG bG) (aCy fun s9 G2 hle hv hs9=>by subst hv; exact aD3 bd bm room 5 3 F G2 hD (by decide) hr9 (bP 1 1) s9 LO hs9 aAZ (qO (by rw [hnm]; exact xW)) (by omega) (by omega)) ?_
     rintro _ G114 μ114 hG114 ⟨f,hfn,hfl,hfs,hfb,rfl,rfl⟩
     have hF2:F.length=2:=by have:=congrArg List.length hnm; simpa using this
     have hD4:DkR (F++[f]) 4:=hD.app hfb (by omega) (by rw [hfn]; exact qO (by rw [hnm]; exact xW)) (by rw [hfn]; exact aAZ.2) (by omega)
     have hs:=hs.mono hG114
     refine .nil (Wp.b1 10 (by kernel_rfl) ?_)
     refine kV rfl tS (aB rfl aF) (sR _) ?_
     refine .nil (Wp.last (by kernel_rfl) ?_)
     refine aT (F++[f]) ?_ ?_ ?_ ?_ ?_
     ·exact (aA rfl (aA rfl (aA rfl (aA rfl (aA rfl eZ)))))
     ·exact (mS .here rfl (mS .here rfl (mS .here rfl (mS .here rfl (mS .here rfl (mS .here rfl (mS .here rfl (mS .here rfl mN))))))))
     ·exact jB _
     ·exact hG114
     refine ⟨?_,?_⟩
     ·(try dsimp only)<;>(exact hD4)
     (try dsimp only)<;>(exact ⟨f,aB0 (qO (by rw [hnm]; exact xW)) hfn⟩)
    refine kp rfl .no wJ (aB rfl aF) (Gp.add bG Gp.nil) (fun _ hle hq=>uE bx 60 (sA 1#64 0#64) _ (PB.rdn (m:=7) ⟨cH _ _ _⟩ rfl) (by show (1#64:BitVec 64).toNat<10; decide)) ?_
    refine .nil (Wp.one 3 (by kernel_rfl) ?_)
    refine lO rfl tK rfl bG rfl ?_
    refine .nil (Wp.b1 9 (by kernel_rfl) ?_)
    refine ka rfl (.inl rfl) aGV (aB rfl (aB rfl (aB rfl aF))) (jI .here bG bG) (aCy fun s9 G2 hle hv hs9=>by subst hv; exact aD3 bd bm room 5 3 F G2 hD (by decide) hr9 (bP 1 1) s9 LO hs9 aAZ (qO (by rw [hnm]; exact xW)) (by omega) (by omega)) ?_
    rintro _ G114 μ114 hG114 ⟨f,hfn,hfl,hfs,hfb,rfl,rfl⟩
    have hF2:F.length=2:=by have:=congrArg List.length hnm; simpa using this
    have hD4:DkR (F++[f]) 4:=hD.app hfb (by omega) (by rw [hfn]; exact qO (by rw [hnm]; exact xW)) (by rw [hfn]; exact aAZ.2) (by omega)
    have hs:=hs.mono hG114
    refine .nil (Wp.b1 10 (by kernel_rfl) ?_)
    refine kV rfl tS (aB rfl aF) (sR _) ?_
    refine .nil (Wp.last (by kernel_rfl) ?_)
    refine aT (F++[f]) ?_ ?_ ?_ ?_ ?_
    ·exact (aA rfl (aA rfl (aA rfl (aA rfl (aA rfl eZ)))))
    ·exact (mS .here rfl (mS .here rfl (mS .here rfl (mS .here rfl (mS .here rfl (mS .here rfl (mS .here rfl (mS .here rfl mN))))))))
    ·exact jB _
    ·exact hG114
    refine ⟨?_,?_⟩
    ·(try dsimp only)<;>(exact hD4)
    (try dsimp only)<;>(exact ⟨f,aB0 (qO (by rw [hnm]; exact xW)) hfn⟩)
   intro F3 Glj24 hGlj24 hFj24
   obtain ⟨hD3,hg3⟩:=hFj24
   have hs:=hs.mono hGlj24
   refine .g (nC rfl rfl (fZ rfl nA rfl (fA rfl aA2 rfl (lO rfl bI rfl eN rfl ?_))))
   refine .p (lE rfl aBM rfl (ci rfl .no rfl jC (.u rfl) ?_))
   refine bw (k:=.u64) rfl .no rfl (.u rfl) (.u rfl) rfl (nC rfl rfl (fZ rfl nA rfl (fA rfl aA2 rfl (s1 rfl (.u rfl) (.u rfl) rfl pA eN (by first|decide | (show _<85; decide)) (aLc _ (0#64+BitVec.ofInt 64 ((rs.length:Nat):Int))) (.g (nC rfl rfl (fZ rfl nA rfl (fA rfl aMB rfl (s1 rfl (.u rfl) (.u rfl) rfl wQ .here (by first|decide | (show _<85; decide)) (aFt _ false) (.g (cD rfl (fun c7=>?_) (fun c7=>?_))))))))))))
   ·have c7k:=c7
    try simp only [aD,aL,aE] at c7
    refine .seq (gM rfl rfl ?_)
    obtain ⟨f9,hf9⟩:=hg3
    refine .p (nC rfl rfl (fZ rfl nA rfl (kp rfl .no wJ (aB rfl aF) (Gp.add .here Gp.nil) (fun _ hle hq=>uE bx 60 ⟨⟨1#8,0#8,0#64,1#64,1#64⟩,(0#64+BitVec.ofInt 64 ((rs.length:Nat):Int)),false⟩ _ (PB.rdn (m:=7) ⟨cH _ _ _⟩ rfl) (by show (1#64:BitVec 64).toNat<10; decide)) ?_)))
    refine ka rfl (.inr rfl) aMX (aB rfl (aB rfl aF)) (jI .here .here .here) (qP fun G1 hle1 h1=>aHp bx bm room 6 4 { eH bd bt root o 1#64 held bn with lg:=⟨⟨1#8,0#8,0#64,1#64,1#64⟩,(0#64+BitVec.ofInt 64 ((rs.length:Nat):Int)),false⟩ } F3 G1 h1 hD3 (by decide) hr9 (bP 1 1) f9 aAZ hf9) ?_
    rintro _ G138 μ138 hG138 ⟨ν5,rfl,rfl,rfl⟩
    have hs:=hs.mono hG138
    refine .g (nC rfl rfl (fZ rfl nA rfl (fA rfl aMB rfl (s1 rfl (.u rfl) (.u rfl) rfl wQ .here (by first|decide | (show _<85; decide)) (aFt _ true) (.g (ka rfl (.inr rfl) aMR (aB rfl aF) (eI .here vA) (qP fun G1 hle1 h1=>aHv bx bt { eH bd bt root o 1#64 held bn with lg:=⟨⟨1#8,0#8,0#64,1#64,1#64⟩,(0#64+BitVec.ofInt 64 ((rs.length:Nat):Int)),true⟩ } 1#64 o1 G1 h1 rfl (by decide)) ?_))))))
    rintro _ G144 μ144 hG144 ⟨ν7,rfl,rfl,rfl⟩
    have hs:=hs.mono hG144
    refine .nil (.code (.seq (.seq ?_)))
    refine aAv vB (by decide) ?_; intro bbRL capRL evRL lcRL; subst evRL
    refine .g (nC rfl rfl (fZ rfl tO rfl (lO rfl bI rfl .here rfl ?_)))
    refine bw (k:=.u64) (b:=1#64) rfl .no rfl (.u rfl) (.u rfl) rfl (.p (kc rfl aX4 (aB rfl (aB rfl aF)) (aNx h l _ hs hl hok) ?_))
    rintro _ G151 μ151 hG151 ⟨s151,rfl,rfl,hs151⟩
    have l151:(bT 0 l).length=l.length:=aAF
    refine lE rfl aBL rfl (mV rfl rfl (.nc (.block ?_)))
    refine aV (α:=Nat×Nat×Nat×Nat×Nat) (fun gh=>[(153,true,.int .i64 (gh.1:Int))]) (fun gh=>[.blk bn (cl [.slice (some ⟨gh.2.2.1,0,none⟩) gh.2.1 gh.2.2.2.1,.int .i64 ((gh.2.2.2.2:Nat):Int)] 225),rS 16 Nd.cells (.slice (some ⟨gh.2.2.1,0,none⟩) gh.2.1 gh.2.2.2.1) 249 (cB (bT 0 l) gh.1)])
     (fun gh Gl=>(gh.1≤l.length)∧(gh.2.1=(cB (bT 0 l) gh.1).length)∧(gh.2.2.2.2≤100000*gh.1)) (fun gh=>l.length-gh.1) (0,1,bbRL,capRL,0) [(0,true,_),(1,true,_),(6,true,_),(151,true,_),(152,true,_)] [_,_,_,_,_,_]
     (aO rfl (aA rfl (aA rfl (aA rfl (aA rfl (aA rfl eZ))))))
     (mS vA rfl (mS vA rfl (mS .here rfl (mS .here rfl (mS .here rfl (mS .here rfl (mS .here rfl (mS .here rfl mN)))))))) ?_ ?_
    ·refine ⟨?_,?_,?_⟩
     ·(try dsimp only)<;>(first|omega|rfl|assumption|(simp; done))
     ·(try dsimp only)<;>(first|omega|rfl|assumption|(simp; done))
     (try dsimp only)<;>(first|omega|rfl|assumption|(simp; done))
    intro gh N1 Gl1 hN1 hGl1 hF1
    obtain ⟨k,m,bb,cap,sz⟩:=gh; dsimp only at hF1 hN1 ⊢
    obtain ⟨hk,hm,hsz⟩:=hF1
    have hs151:=hs151.mono hGl1
    refine .g (cP rfl rfl rfl rfl (.g (cD rfl (fun c8=>?_) (fun c8=>?_))))
    ·have c8k:=c8
     try simp only [aD,aL,aE] at c8
     refine .skip (.code (.seq (.block (.seq (dI rfl rfl (ih rfl .no aBJ (.u rfl) (.u rfl) (by omega) (by omega) (fun _=>hs151.nn (k:=k) (by first|omega|(simp only [Bool.and_eq_true,decide_eq_true_eq] at hc; omega)|(simp only [List.length_cons,List.length_nil]; omega))) ?_))))))
     obtain ⟨e,ee⟩:=dT (k:=k) (xs:=(bT 0 l)) (by rw [aAF]; omega)
     obtain ⟨op,eop⟩:=dT (k:=k) (xs:=l) (by omega)
     have hop:=hok op (List.mem_of_getElem? eop)
     have heq:=aIA (j:=0) eop
     rw [ee,Nat.zero_add] at heq
     have heq:=Option.some.inj heq
     subst heq
     obtain ⟨hW,hWn⟩:=aVa (k:=k) (q:=BitVec.ofNat 64 (k+1)) (by omega) eop hord (by omega)
     refine lA rfl .no mY (.u rfl) (fun _=>(hs151.at (by omega) ee).rd) (fun _=>Ent.len _) ?_
     refine al rfl aDa ?_; intro b17
     refine sw rfl (.u rfl) (.u rfl) rfl tV .here rfl (Ent.one _) ?_
     refine .nil (.code (eT ⟨true,false⟩ aY (by kernel_rfl) ?_))
     refine Wp.one 0 (by kernel_rfl) ?_
     refine mV rfl rfl (.nil (Wp.one 1 (by kernel_rfl) ?_))
     refine nC rfl rfl (.nil (Wp.one 2 (by kernel_rfl) ?_))
     refine fZ rfl aF9 rfl (.nil (Wp.one 5 (by kernel_rfl) ?_))
     refine fZ rfl tP rfl (.nil (Wp.one 6 (by kernel_rfl) ?_))
     refine lO rfl bI rfl .here rfl ?_
     refine .nil (Wp.b3 3 4 7 (by kernel_rfl) ?_ ?_ ?_)
     ·refine lO rfl vZ rfl bG rfl ?_
      refine .nil (Wp.b2 4 7 (by kernel_rfl) ?_ ?_)
      ·refine lA rfl .no mY (.u rfl) (fun _=>RdN.own .here) (fun _=>Ent.len _) ?_
       refine .nil (Wp.b1 7 (by kernel_rfl) ?_)
       refine kV rfl aBD (aB rfl aF) (aAO k _ (by omega)) ?_
       refine .nil (Wp.b1 8 (by kernel_rfl) ?_)
       refine ka rfl (.inl rfl) aBC (aB rfl (aB rfl (aB rfl aF))) (eI aC aC) (aAP bn bb m cap sz (k+1) (cB (bT 0 l) k) (dX (BitVec.ofNat 64 (k+1)) op) (jL k) _ hm hW hWn (yE hop (by simp; omega)) (by omega) (by omega) (by rw [uM]; omega) (by omega)) ?_
       rintro _ G165 μ165 hG165 ⟨bb2,cap2,rfl,rfl⟩
       refine .nil (Wp.one 9 (by kernel_rfl) ?_)
       refine cP rfl rfl rfl rfl (.nil (Wp.b1 10 (by kernel_rfl) ?_))
       refine kV rfl zG (aB rfl aF) (xH _ rfl _) ?_
       refine .nil (Wp.last (by kernel_rfl) ?_)
       refine .g (aW (((k+1):Nat):Int) rfl rfl rfl rfl ?_)
       refine .g (aT (k+1,(cB (bT 0 l) k++[(dX (BitVec.ofNat 64 (k+1)) op,fun _=>0)]).length,bb2,cap2,sz+(op.user.size+op.value.size+8)) (aO rfl (aA rfl (aA rfl (aA rfl (aA rfl (aA rfl eZ)))))) (mS .here rfl (mS .here (by rw [oL ee]) (mS aC rfl (mS aC rfl (mS aC rfl (mS aC rfl (mS aC rfl (mS aC rfl mN)))))))) ?_ ?_ ?_)
       ·first|omega|(dsimp only; omega)
       ·exact (hGl1).trans hG165
       refine ⟨?_,?_,?_⟩
       ·(try dsimp only)<;>(first|omega|rfl|assumption|(simp; done))
       ·(try dsimp only)<;>(rw [oL ee,pN])
       (try dsimp only)<;>(have:=hop.user; have:=hop.value; omega)
      refine kV rfl aBD (aB rfl aF) (aAO k _ (by omega)) ?_
      refine .nil (Wp.one 4 (by kernel_rfl) ?_)
      refine lA rfl .no mY (.u rfl) (fun _=>RdN.own .here) (fun _=>Ent.len _) ?_
      refine .nil (Wp.b1 8 (by kernel_rfl) ?_)
      refine ka rfl (.inl rfl) aBC (aB rfl (aB rfl (aB rfl aF))) (eI aC aC) (aAP bn bb m cap sz (k+1) (cB (bT 0 l) k) (dX (BitVec.ofNat 64 (k+1)) op) (jL k) _ hm hW hWn (yE hop (by simp; omega)) (by omega) (by omega) (by rw [uM]; omega) (by omega)) ?_
      rintro _ G165 μ165 hG165 ⟨bb2,cap2,rfl,rfl⟩
      refine .nil (Wp.one 9 (by kernel_rfl) ?_)
      refine cP rfl rfl rfl rfl (.nil (Wp.b1 10 (by kernel_rfl) ?_))
      refine kV rfl zG (aB rfl aF) (xH _ rfl _) ?_
      refine .nil (Wp.last (by kernel_rfl) ?_)
      refine .g (aW (((k+1):Nat):Int) rfl rfl rfl rfl ?_)
      refine .g (aT (k+1,(cB (bT 0 l) k++[(dX (BitVec.ofNat 64 (k+1)) op,fun _=>0)]).length,bb2,cap2,sz+(op.user.size+op.value.size+8)) (aO rfl (aA rfl (aA rfl (aA rfl (aA rfl (aA rfl eZ)))))) (mS .here rfl (mS .here (by rw [oL ee]) (mS aC rfl (mS aC rfl (mS aC rfl (mS aC rfl (mS aC rfl (mS aC rfl mN)))))))) ?_ ?_ ?_)
      ·first|omega|(dsimp only; omega)
      ·exact (hGl1).trans hG165
      refine ⟨?_,?_,?_⟩
      ·(try dsimp only)<;>(first|omega|rfl|assumption|(simp; done))
      ·(try dsimp only)<;>(rw [oL ee,pN])
      (try dsimp only)<;>(have:=hop.user; have:=hop.value; omega)
     ·refine lA rfl .no mY (.u rfl) (fun _=>RdN.own .here) (fun _=>Ent.len _) ?_
      refine .nil (Wp.b2 3 7 (by kernel_rfl) ?_ ?_)
      ·refine lO rfl vZ rfl bG rfl ?_
       refine .nil (Wp.b1 7 (by kernel_rfl) ?_)
       refine kV rfl aBD (aB rfl aF) (aAO k _ (by omega)) ?_
       refine .nil (Wp.b1 8 (by kernel_rfl) ?_)
       refine ka rfl (.inl rfl) aBC (aB rfl (aB rfl (aB rfl aF))) (eI aC aC) (aAP bn bb m cap sz (k+1) (cB (bT 0 l) k) (dX (BitVec.ofNat 64 (k+1)) op) (jL k) _ hm hW hWn (yE hop (by simp; omega)) (by omega) (by omega) (by rw [uM]; omega) (by omega)) ?_
       rintro _ G165 μ165 hG165 ⟨bb2,cap2,rfl,rfl⟩
       refine .nil (Wp.one 9 (by kernel_rfl) ?_)
       refine cP rfl rfl rfl rfl (.nil (Wp.b1 10 (by kernel_rfl) ?_))
       refine kV rfl zG (aB rfl aF) (xH _ rfl _) ?_
       refine .nil (Wp.last (by kernel_rfl) ?_)
       refine .g (aW (((k+1):Nat):Int) rfl rfl rfl rfl ?_)
       refine .g (aT (k+1,(cB (bT 0 l) k++[(dX (BitVec.ofNat 64 (k+1)) op,fun _=>0)]).length,bb2,cap2,sz+(op.user.size+op.value.size+8)) (aO rfl (aA rfl (aA rfl (aA rfl (aA rfl (aA rfl eZ)))))) (mS .here rfl (mS .here (by rw [oL ee]) (mS aC rfl (mS aC rfl (mS aC rfl (mS aC rfl (mS aC rfl (mS aC rfl mN)))))))) ?_ ?_ ?_)
       ·first|omega|(dsimp only; omega)
       ·exact (hGl1).trans hG165
       refine ⟨?_,?_,?_⟩
       ·(try dsimp only)<;>(first|omega|rfl|assumption|(simp; done))
       ·(try dsimp only)<;>(rw [oL ee,pN])
       (try dsimp only)<;>(have:=hop.user; have:=hop.value; omega)
      refine kV rfl aBD (aB rfl aF) (aAO k _ (by omega)) ?_
      refine .nil (Wp.one 3 (by kernel_rfl) ?_)
      refine lO rfl vZ rfl bG rfl ?_
      refine .nil (Wp.b1 8 (by kernel_rfl) ?_)
      refine ka rfl (.inl rfl) aBC (aB rfl (aB rfl (aB rfl aF))) (eI aC aC) (aAP bn bb m cap sz (k+1) (cB (bT 0 l) k) (dX (BitVec.ofNat 64 (k+1)) op) (jL k) _ hm hW hWn (yE hop (by simp; omega)) (by omega) (by omega) (by rw [uM]; omega) (by omega)) ?_
      rintro _ G165 μ165 hG165 ⟨bb2,cap2,rfl,rfl⟩
      refine .nil (Wp.one 9 (by kernel_rfl) ?_)
      refine cP rfl rfl rfl rfl (.nil (Wp.b1 10 (by kernel_rfl) ?_))
      refine kV rfl zG (aB rfl aF) (xH _ rfl _) ?_
      refine .nil (Wp.last (by kernel_rfl) ?_)
      refine .g (aW (((k+1):Nat):Int) rfl rfl rfl rfl ?_)
      refine .g (aT (k+1,(cB (bT 0 l) k++[(dX (BitVec.ofNat 64 (k+1)) op,fun _=>0)]).length,bb2,cap2,sz+(op.user.size+op.value.size+8)) (aO rfl (aA rfl (aA rfl (aA rfl (aA rfl (aA rfl eZ)))))) (mS .here rfl (mS .here (by rw [oL ee]) (mS aC rfl (mS aC rfl (mS aC rfl (mS aC rfl (mS aC rfl (mS aC rfl mN)))))))) ?_ ?_ ?_)
      ·first|omega|(dsimp only; omega)
      ·exact (hGl1).trans hG165
      refine ⟨?_,?_,?_⟩
      ·(try dsimp only)<;>(first|omega|rfl|assumption|(simp; done))
      ·(try dsimp only)<;>(rw [oL ee,pN])
      (try dsimp only)<;>(have:=hop.user; have:=hop.value; omega)
     refine kV rfl aBD (aB rfl aF) (aAO k _ (by omega)) ?_
     refine .nil (Wp.one 3 (by kernel_rfl) ?_)
     refine lO rfl vZ rfl bG rfl ?_
     refine .nil (Wp.one 4 (by kernel_rfl) ?_)
     refine lA rfl .no mY (.u rfl) (fun _=>RdN.own .here) (fun _=>Ent.len _) ?_
     refine .nil (Wp.b1 8 (by kernel_rfl) ?_)
     refine ka rfl (.inl rfl) aBC (aB rfl (aB rfl (aB rfl aF))) (eI aC aC) (aAP bn bb m cap sz (k+1) (cB (bT 0 l) k) (dX (BitVec.ofNat 64 (k+1)) op) (jL k) _ hm hW hWn (yE hop (by simp; omega)) (by omega) (by omega) (by rw [uM]; omega) (by omega)) ?_
     rintro _ G165 μ165 hG165 ⟨bb2,cap2,rfl,rfl⟩
     refine .nil (Wp.one 9 (by kernel_rfl) ?_)
     refine cP rfl rfl rfl rfl (.nil (Wp.b1 10 (by kernel_rfl) ?_))
     refine kV rfl zG (aB rfl aF) (xH _ rfl _) ?_
     refine .nil (Wp.last (by kernel_rfl) ?_)
     refine .g (aW (((k+1):Nat):Int) rfl rfl rfl rfl ?_)
     refine .g (aT (k+1,(cB (bT 0 l) k++[(dX (BitVec.ofNat 64 (k+1)) op,fun _=>0)]).length,bb2,cap2,sz+(op.user.size+op.value.size+8)) (aO rfl (aA rfl (aA rfl (aA rfl (aA rfl (aA rfl eZ)))))) (mS .here rfl (mS .here (by rw [oL ee]) (mS aC rfl (mS aC rfl (mS aC rfl (mS aC rfl (mS aC rfl (mS aC rfl mN)))))))) ?_ ?_ ?_)
     ·first|omega|(dsimp only; omega)
     ·exact (hGl1).trans hG165
     refine ⟨?_,?_,?_⟩
     ·(try dsimp only)<;>(first|omega|rfl|assumption|(simp; done))
     ·(try dsimp only)<;>(rw [oL ee,pN])
     (try dsimp only)<;>(have:=hop.user; have:=hop.value; omega)
    have c8k:=c8
    try simp only [aD,aL,aE] at c8
    refine .g (nC rfl rfl (fZ rfl tO rfl (lO rfl bI rfl aM rfl ?_)))
    refine .p (lE rfl lD rfl (ci rfl .no rfl jC (.u rfl) ?_))
    refine bw (k:=.u64) rfl .no rfl (.u rfl) (.u rfl) rfl (nC rfl rfl (fZ rfl tO rfl (s1 rfl (.u rfl) (.u rfl) rfl pA aM (by first|decide | (show _<85; decide)) (aLg _ (0#64+BitVec.ofInt 64 ((l.length:Nat):Int))) (.g (s1 rfl (.u rfl) (.u rfl) rfl oC vB (by first|decide | (show _<85; decide)) (rfl) ?_)))))
    refine .nil (.code (.ret (zV [⟨89,[.pointer (some ⟨bx,0,none⟩),.pointer (some ⟨b6,0,none⟩)],[]⟩] rfl (by intro q hq; rw [List.mem_singleton.1 hq]; exact ⟨aGk,fun w hw=>aEc w _ _⟩) Tryz.results168 (.cell rfl (fun w hw=>iZ lG (Rd.own .here rfl w hw)) .nil) (mS aC rfl (mS eN rfl (mS eN rfl (mS aC rfl (mS aC rfl (mS aC rfl mN)))))) ?_)))
    obtain rfl:k=l.length:=by omega
    exact ⟨bb,m,cap,sz,iT (bP 1 1) F3,_,hm,rfl,rfl⟩
   have c7k:=c7
   cases c7
  have c5k:=c5
  cases c5
 have c4k:=c4
 cases c4
end Go.Proofs.YtoifkgkandfeiaaGreatDoor
namespace Go.Proofs.YtoifkgkandfeiaaGreatDoor
open Go.Tan Go.RowKit Go.Maps Go.Sort Go.Shelf
theorem aWP:cX Tryz.prog 140 [0]=some ([.pointer none,.slice none 0 0],[(0,1)]):=by kernel_rfl
theorem oY:bL Tryz.prog 138=some (142,3,40):=by kernel_rfl
theorem aBK:(bL Tryz.prog 138).isSome=true:=by kernel_rfl
theorem aGo:bL Tryz.prog 274=some (22,1,24):=by kernel_rfl
theorem aGq:(bL Tryz.prog 274).isSome=true:=by kernel_rfl
theorem aL9:aQ Tryz.prog 142 0=some 0:=by kernel_rfl
theorem aFw:bY Tryz.prog 142=some (some 3):=by kernel_rfl
theorem aXb:aJ Tryz.prog 147=true:=by kernel_rfl
theorem rN:aQ Tryz.prog 140 1=some 1:=by kernel_rfl
theorem vY:bY Tryz.prog 138=some none:=by kernel_rfl
theorem aXa:aJ Tryz.prog 146=true:=by kernel_rfl
theorem aPk (bq:Nat) (G:PM):Ct Tryz.prog 51 ([pt bq]:List Value).toArray G [] (fun _ μ' u=>∃ bg,μ'=[.blk bg (cl [pt bq,.slice none 0 0] 140)]∧u=pt bg):=by
 refine Ct.of Tryz.func51 rfl Tryz.ntmps51 rfl fun w0 hs0=>?_
 refine .g (pe rfl .no aBH (.u rfl) (.u rfl) ?_)
 refine .g (jE rfl rfl ?_)
 refine .g (dK ([pt bq,.slice none 0 0]) rfl .no aWP (.cons (.u rfl) rfl .nil) rfl (rfl) ?_)
 refine bX rfl rfl rfl ?_; intro b7
 refine aS rfl rfl (.nc (.ret (We.fin Tryz.results51 (.tmp rfl .nil) (mS .here rfl mN) ?_)))
 exact ⟨b7,rfl,rfl⟩
theorem aOG (s:Sh) (n:Nat) (hn:n=0) (G:PM):Ct Tryz.prog 170 ([s.val n]:List Value).toArray G [] (fun _ μ' u=>∃ o,μ'=[]∧u=.slice o 0 0):=by
 subst hn
 refine Ct.of Tryz.func170 rfl Tryz.ntmps170 rfl fun w0 hs0=>?_
 refine .g (sn0 rfl .no aBK (.u rfl) (.u rfl) ?_)
 refine .g (cD rfl (fun c1=>?_) (fun c1=>?_))
 ·have c1k:=c1
  try simp only [aD,aE] at c1
  refine .seq (aP rfl rfl (aS rfl rfl (.nc (.ret (aN Tryz.results170 (.tmp rfl .nil) ?_)))))
  exact ⟨none,rfl,rfl⟩
 have c1k:=c1
 try simp only [aD,aE] at c1
 refine .skip (.code (.seq (dI rfl rfl ?_)))
 refine rX rfl oY ?_; intro b5
 refine .p (aNl rfl oY (.u rfl) (.u rfl) ?_)
 refine aS rfl rfl (.nc (.ret (aN Tryz.results170 (.tmp rfl .nil) ?_)))
 exact ⟨some _,rfl,rfl⟩
theorem aHc (h:Sh) (l:List Opn) (G:PM) (hs:SlR G 3 Opn.cells h l) (h0:0<l.length) (hl:l.length≤1000):Ct Tryz.prog 95 ([h.val l.length]:List Value).toArray G [] (fun G' μ' u=>∃ s,μ'=[]∧u=s.val l.length∧SlR G' 3 Opn.cells s l):=by
 refine Ct.of Tryz.func95 rfl Tryz.ntmps95 rfl fun w0 hs0=>?_
 refine .g (sn0 rfl .no lD (.u rfl) (.u rfl) ?_)
 refine .g (cD rfl (fun c1=>?_) (fun c1=>?_))
 ·have c1k:=c1
  rw [hs.nn h0] at c1; cases c1
 have c1k:=c1
 try simp only [aD,aE] at c1
 refine .skip (.code (.seq (dI rfl rfl ?_)))
 refine rX rfl gW ?_; intro b5
 refine mV rfl rfl ?_
 refine apE (enc:=Opn.cells) rfl gW nD rfl (.u rfl) (.u rfl) hs h0 (fun _ _=>rfl) (aJm l) (by omega) (by unfold maxLen; omega) ?_; intro v7 ov7
 refine aS rfl rfl (.nc (.ret ?_))
 refine oQ .here (fun _ _=>rfl) (by intro b hb; cases hb) ?_; intro GfR7 hR7 hleR7 evR7 hsR7; subst evR7
 refine aN Tryz.results95 (.tmp rfl .nil) ?_
 exact ⟨hR7,rfl,rfl,hsR7⟩
theorem aNz (h:Sh) (l:List Opn) (G:PM) (hs:SlR G 3 Opn.cells h l) (hl:l.length≤2) (hok:∀ o∈l,o.ok):Ct Tryz.prog 167 ([h.val l.length]:List Value).toArray G [] (fun _ μ' u=>μ'=[]∧u=.int .i64 ((8*l.length+mT l:Nat):Int)):=by
 refine Ct.of Tryz.func167 rfl Tryz.ntmps167 rfl fun w0 hs0=>?_
 refine .g (lE rfl lD rfl (aW (((8*l.length):Nat):Int) rfl rfl rfl rfl ?_))
 refine .g (lE rfl lD rfl (mV rfl rfl (.nc (.block ?_))))
 refine aV (α:=Nat) (fun k=>[(3,true,.int .i64 ((8*l.length+mT (l.take k):Nat):Int)),(11,true,.int .i64 (k:Int))]) (fun _=>[])
  (fun k Gl=>(k≤l.length)) (fun k=>l.length-k) 0 [(9,true,_),(10,true,_)] []
  (dY rfl (by simp [mT]) (aO rfl (aA rfl (aA rfl eZ))))
  mN ?_ ?_
 ·(try dsimp only)<;>(first|omega|rfl|assumption|(simp; done))
 intro k N0 Gl0 hN0 hGl0 hF0
 try dsimp only at hF0 hN0 ⊢
 have hk:=hF0
 have hs:=hs.mono hGl0
 have hz:=aKj (l:=l.take k) (fun o ho=>hok o (List.mem_of_mem_take ho)); have hz2:(l.take k).length≤k:=by rw [List.length_take]; omega
 refine .g (cP rfl rfl rfl rfl (.g (cD rfl (fun c1=>?_) (fun c1=>?_))))
 ·have c1k:=c1
  try simp only [aD,aE] at c1
  refine .skip (.code (.seq (.block (.seq (dI rfl rfl (ih rfl .no gW (.u rfl) (.u rfl) (by omega) (by omega) (fun _=>hs.nn (k:=k) (by first|omega|(simp only [Bool.and_eq_true,decide_eq_true_eq] at hc; omega)|(simp only [List.length_cons,List.length_nil]; omega))) ?_))))))
  obtain ⟨o,eo⟩:=dT (k:=k) (xs:=l) (by omega)
  have ho:=hok o (List.mem_of_getElem? eo)
  have hou:=ho.user; have hov:=ho.value
  refine lA rfl .no jX (.u rfl) (fun _=>(hs.at (by omega) eo).rd) (fun _=>Opn.len _) ?_
  refine al rfl wU ?_; intro b5
  refine sw rfl (.u rfl) (.u rfl) rfl oZ .here rfl (Opn.one _) ?_
  refine .g (fZ rfl aGO rfl (lO rfl cQ rfl .here (by first|exact aK rfl|rfl) ?_))
  refine ls rfl .no cE (.u rfl) (fZ rfl aGP rfl (lO rfl cQ rfl .here (by first|exact aK rfl|rfl) ?_))
  refine ls rfl .no cE (.u rfl) (aW (((o.user.size+o.value.size):Nat):Int) rfl rfl rfl rfl ?_)
  refine hJ (((8*l.length+mT (l.take k)+(o.user.size+o.value.size)):Nat):Int) rfl .no (.u rfl) (.u rfl) rfl (by omega) (fun _=>eJ (by omega) (by omega)) ?_
  refine .g (aW (((k+1):Nat):Int) rfl rfl rfl rfl ?_)
  refine .g (aT (k+1) ?_ ?_ ?_ ?_ ?_)
  ·exact (dY rfl (congrArg (fun z:Nat=>Value.int .i64 (z:Int)) (by rw [aKk eo,Nat.add_assoc])) (aO rfl (aA rfl (aA rfl eZ))))
  ·exact mN
  ·first|omega|(dsimp only; omega)
  ·exact hGl0
  (try dsimp only)<;>(first|omega|rfl|assumption|(simp; done))
 have c1k:=c1
 try simp only [aD,aE] at c1
 refine .exit (.xcode (.xlp (.xblk (.code (.seq (bF rfl rfl (mV rfl rfl (aS rfl rfl (.nc (.ret (aN Tryz.results167 (.tmp rfl .nil) ?_)))))))))))
 obtain rfl:k=l.length:=by omega
 rw [List.take_length]
 exact ⟨rfl,rfl⟩
theorem aHP (h:Sh) (ws:List Wtg) (G:PM) (hs:SlR G 1 aEA h ws) (hA:AllW G ws) (hw:ws.length≤1000) (h1:∀ w∈ws,w.ops.length≤10):Ct Tryz.prog 169 ([h.val ws.length]:List Value).toArray G [] (fun G' μ' u=>∃ s,μ'=[]∧u=s.val (jn ws).length∧SlR G' 3 Opn.cells s (jn ws)):=by
 refine Ct.of Tryz.func169 rfl Tryz.ntmps169 rfl fun w0 hs0=>?_
 refine .seq (aP rfl rfl (aS rfl rfl (.nc (.seq (aP rfl rfl (aS rfl rfl (.nc (.seq (.seq (mU 3 Opn.cells 71 (.g (lE rfl aGq rfl (mV rfl rfl (.nc (.block ?_)))))))))))))))
 refine aV (α:=Nat×Value) (fun gh=>[(3,true,gh.2),(8,true,.int .i64 (gh.1:Int))]) (fun gh=>[rS 3 Opn.cells gh.2 71 (jn (ws.take gh.1))])
  (fun gh Gl=>(gh.1≤ws.length)) (fun gh=>ws.length-gh.1) (0,.slice none 0 0) [(6,true,_),(7,true,_)] []
  (aA rfl (aO rfl (aA rfl (aA rfl eZ))))
  (mS .here rfl mN) ?_ ?_
 ·(try dsimp only)<;>(first|omega|rfl|assumption|(simp; done))
 intro gh N0 Gl0 hN0 hGl0 hF0
 obtain ⟨k,v⟩:=gh; dsimp only at hF0 hN0 ⊢
 have hk:=hF0
 have hs:=hs.mono hGl0
 have hA:=hA.mono hGl0
 refine .g (cP rfl rfl rfl rfl (.g (cD rfl (fun c1=>?_) (fun c1=>?_))))
 ·have c1k:=c1
  try simp only [aD,aE] at c1
  refine .skip (.code (.seq (.block (.seq (dQ rfl rfl (ih rfl .no aGo (.u rfl) (.u rfl) (by omega) (by omega) (fun _=>hs.nn (k:=k) (by first|omega|(simp only [Bool.and_eq_true,decide_eq_true_eq] at hc; omega)|(simp only [List.length_cons,List.length_nil]; omega))) ?_))))))
  obtain ⟨w,ew⟩:=dT (k:=k) (xs:=ws) (by omega)
  have hwo:=hA w (List.mem_of_getElem? ew)
  have hw1:=h1 w (List.mem_of_getElem? ew)
  have hlt:(jn (ws.take k)).length≤10*k:=Nat.le_trans (aQG fun w hw=>h1 w (List.mem_of_mem_take hw)) (by rw [List.length_take]; omega)
  refine lN rfl lF rfl ((hs.at (by omega) ew 0 _ rfl).rd) ?_
  refine aS rfl rfl (.nc (dI rfl rfl (mV rfl rfl (mV rfl rfl ?_))))
  refine apL (xs:=(jn (ws.take k))) rfl gW nD rfl (.u rfl) (.u rfl) .here hwo (fun _ _=>rfl) (aJm _) (by omega) (by unfold maxLen; omega) ?_; intro v14 ov14
  refine .g (aW (((k+1):Nat):Int) rfl rfl rfl rfl ?_)
  refine .g (aT (k+1,v14) ?_ ?_ ?_ ?_ ?_)
  ·exact (aA rfl (aO rfl (aA rfl (aA rfl eZ))))
  ·exact (mS .here (by rw [aQH ew]) mN)
  ·first|omega|(dsimp only; omega)
  ·exact hGl0
  (try dsimp only)<;>(first|omega|rfl|assumption|(simp; done))
 have c1k:=c1
 try simp only [aD,aE] at c1
 refine .exit (.xcode (.xlp (.xblk (.code (.seq (bF rfl rfl (mV rfl rfl (aS rfl rfl (.nc (.ret ?_))))))))))
 refine oQ .here (fun _ _=>rfl) (by intro b hb; cases hb) ?_; intro GfRO hRO hleRO evRO hsRO; subst evRO
 refine aN Tryz.results169 (.tmp rfl .nil) ?_
 obtain rfl:k=ws.length:=by omega
 rw [List.take_length] at hsRO ⊢
 exact ⟨hRO,rfl,rfl,hsRO⟩
theorem aSH (w:Wtg) (c bc:Nat) (G:PM) (hb:PB G bc (cl [.int .i64 ((c:Nat):Int)] 3)):Ct Tryz.prog 147 ([Value.agg w.cells.toArray,.pointer (some ⟨bc,0,none⟩)]:List Value).toArray G [] (fun _ μ' u=>μ'=[]∧u=.bool ((fun w=>decide ((w.c:Int)=((c:Nat):Int))) w)):=by
 refine Ct.of Tryz.func147 rfl Tryz.ntmps147 rfl fun w0 hs0=>?_
 refine .seq (bF rfl rfl ?_)
 refine bX rfl rfl rfl ?_; intro b2
 refine .g (fZ rfl aL9 rfl (lO rfl bA rfl .here rfl ?_))
 refine lN rfl bA rfl ((hb.rd (rfl)).rd) ?_
 refine cP rfl rfl rfl rfl (aS rfl rfl (.nc (.ret (aN Tryz.results147 (.tmp rfl .nil) ?_))))
 exact ⟨rfl,rfl⟩
theorem aP8 (h:Sh) (l:List Wtg) (G:PM) (hs:SlR G 3 Wtg.cells h l) (hl:l.length≤100000000) (f:Nat) (hf:aJ Tryz.prog f=true) (vc:List Value) (p:Wtg→Bool) (hc:∀ G',PM.le G G'→∀ m∈l,Ct Tryz.prog f ([Value.agg m.cells.toArray]++vc).toArray G' [] fun _ μ' u=>μ'=[]∧u=.bool (p m)):Ct Tryz.prog 146 ([h.val l.length,.func (.func f) #[] vc.toArray]:List Value).toArray G [] (fun _ μ' u=>μ'=[]∧u=.int .i64 (oJ p l)):=by
 refine Ct.of Tryz.func146 rfl Tryz.ntmps146 rfl fun w0 hs0=>?_
 refine .g (lE rfl aBK rfl (mV rfl rfl (.nc (.block ?_))))
 refine aV (α:=Nat) (fun k=>[(8,true,.int .i64 (k:Int))]) (fun _=>[])
  (fun k Gl=>(k≤l.length)∧(∀ j y,j<k→l[j]? = some y→p y=false)) (fun k=>l.length-k) 0 [(0,true,_),(1,true,_),(7,true,_)] []
  (aO rfl (aA rfl (aA rfl (aA rfl eZ))))
  mN ?_ ?_
 ·refine ⟨?_,?_⟩
  ·(try dsimp only)<;>(first|omega|rfl|assumption|(simp; done))
  (try dsimp only)<;>(exact fun j y h=>absurd h (Nat.not_lt_zero _))
 intro k N0 Gl0 hN0 hGl0 hF0
 try dsimp only at hF0 hN0 ⊢
 obtain ⟨hk,hno⟩:=hF0
 have hs:=hs.mono hGl0
 refine .g (cP rfl rfl rfl rfl (.g (cD rfl (fun c1=>?_) (fun c1=>?_))))
 ·have c1k:=c1
  try simp only [aD,aE] at c1
  refine .skip (.code (.seq (.block (.seq (bF rfl rfl (mV rfl rfl (aS rfl rfl (.nc (.seq (gM rfl rfl (mV rfl rfl (mV rfl rfl (mV rfl rfl (ih rfl .no oY (.u rfl) (.u rfl) (by omega) (by omega) (fun _=>hs.nn (k:=k) (by first|omega|(simp only [Bool.and_eq_true,decide_eq_true_eq] at hc; omega)|(simp only [List.length_cons,List.length_nil]; omega))) ?_))))))))))))))
  obtain ⟨x,ex⟩:=dT (k:=k) (xs:=l) (by omega)
  refine lA rfl .no aFw (.u rfl) (fun _=>(hs.at (by omega) ex).rd) (fun _=>Wtg.len _) ?_
  refine kf rfl .no (.u rfl) hf (aB rfl aF) (fun _=>hc _ hGl0 x (List.mem_of_getElem? ex)) ?_
  refine .g (cD rfl (fun c2=>?_) (fun c2=>?_))
  ·have c2k:=c2
   try simp only [aD,aE] at c2
   refine .seq (bF rfl rfl (mV rfl rfl (aS rfl rfl (.nc (.ret (aN Tryz.results146 (.tmp rfl .nil) ?_))))))
   exact ⟨rfl,aIj hno ex (by simpa using c2k)⟩
  have c2k:=c2
  try simp only [aD,aE] at c2
  refine .g (aW (((k+1):Nat):Int) rfl rfl rfl rfl ?_)
  refine .g (aT (k+1) ?_ ?_ ?_ ?_ ?_)
  ·exact (aO rfl (aA rfl (aA rfl (aA rfl eZ))))
  ·exact mN
  ·first|omega|(dsimp only; omega)
  ·exact hGl0
  refine ⟨?_,?_⟩
  ·(try dsimp only)<;>(first|omega|rfl|assumption|(simp; done))
  (try dsimp only)<;>(exact aIl hno ex (by simpa using c2k))
 have c1k:=c1
 try simp only [aD,aE] at c1
 refine .exit (.xcode (.xlp (.xblk (.code (.seq (aP rfl rfl (aS rfl rfl (.nc (.ret (aN Tryz.results146 (.tmp rfl .nil) ?_))))))))))
 exact ⟨rfl,aIk hno (by omega)⟩
theorem aSK (bg:Nat) (z:Value) (h:Sh) (ws:List Wtg) (c:Nat) (G:PM) (hbg:PB G bg (cl [z,h.val ws.length] 140)) (hs:SlR G 3 Wtg.cells h ws) (hw:ws.length≤1000):Ct Tryz.prog 94 ([pt bg,.int .i64 ((c:Nat):Int)]:List Value).toArray G [] (fun _ μ' u=>μ'=[]∧u=.int .i64 (oJ (fun w=>decide ((w.c:Int)=((c:Nat):Int))) ws)):=by
 refine Ct.of Tryz.func94 rfl Tryz.ntmps94 rfl fun w0 hs0=>?_
 refine .seq (bF rfl rfl ?_)
 refine bX rfl rfl rfl ?_; intro b3
 refine aS rfl rfl (.nc (.seq ?_))
 refine fE .here (by intro b hb; cases hb) ?_; intro Gfb3 hleb3 hbb3
 have hbg:=hbg.mono hleb3
 have hs:=hs.mono hleb3
 refine .g (nC rfl rfl (fA rfl rN rfl (lN rfl vY rfl ((hbg.rd (rfl)).rd) ?_)))
 refine mf (vf:=#[]) (vc:=[Value.pointer (some ⟨b3,0,none⟩)].toArray) rfl .no (fun a ha _=>by simp) (fun a ha _=>by simp [(Ev.u (c:=true) rfl:Ev _ true (.tmp 3) _).eval ha rfl]) ?_
 refine kv rfl .no aXa (aB rfl (aB rfl aF)) (fun _=>aP8 h ws _ hs (by omega) 147 aXb [.pointer (some ⟨b3,0,none⟩)] (fun w=>decide ((w.c:Int)=((c:Nat):Int))) (fun G2 hle m hm=>aSH m c b3 G2 (hbb3.mono hle))) ?_
 refine aS rfl rfl (.nc (.ret (aN Tryz.results94 (.tmp rfl .nil) ?_)))
 exact ⟨rfl,rfl⟩
end Go.Proofs.YtoifkgkandfeiaaGreatDoor
