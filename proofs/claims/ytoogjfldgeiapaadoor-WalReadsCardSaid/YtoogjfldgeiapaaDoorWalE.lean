/- The log's reader: its cells, one piece's taking, and the laws' own lists. Plain data. No condition. -/
import Derived.Test.YtoogjfldgeiapaaDoorWalD
import Derived.Test.YtoogjfldgeiapaaDoorTanN
namespace Go.Tan
open Go.RowKit
def rdC (enc mac : Nat → Y) (va : Value) (h : Hd) (vr : Value) (used : Int) (torn : Bool) (vp : Value) : List Value :=
  ba 32 enc ++ ba 32 mac ++ [va, V h.kind, V h.level, uv .u64 h.gen, uv .u64 h.epoch, uv .u64 h.num, vr, .int .i64 used, .bool torn, vp]
section
variable {enc mac : Nat → Y} {va vr vp v : Value} {h : Hd} {used u : Int} {torn b : Bool}
theorem rdc_len : (rdC enc mac va h vr used torn vp).length = 74 := by simp [rdC, ba_len]
theorem k64 : (ba 32 enc ++ ba 32 mac).length = 64 := key_len enc mac
theorem rdc_key : ((rdC enc mac va h vr used torn vp).drop 0).take 64 = ba 32 enc ++ ba 32 mac := by rw [rdC, List.drop_zero, List.take_left' k64]
theorem rdc_ad : (rdC enc mac va h vr used torn vp)[64]? = some va := by rw [rdC, List.getElem?_append_right (by rw [k64]; decide), k64]; rfl
theorem rdc_rec : (rdC enc mac va h vr used torn vp)[70]? = some vr := by rw [rdC, List.getElem?_append_right (by rw [k64]; decide), k64]; rfl
theorem rdc_used : (rdC enc mac va h vr used torn vp)[71]? = some (.int .i64 used) := by rw [rdC, List.getElem?_append_right (by rw [k64]; decide), k64]; rfl
theorem rdc_parts : (rdC enc mac va h vr used torn vp)[73]? = some vp := by rw [rdC, List.getElem?_append_right (by rw [k64]; decide), k64]; rfl
theorem rds_rec : (rdC enc mac va h vr used torn vp).set 70 v = rdC enc mac va h v used torn vp := by rw [rdC, List.set_append_right _ _ (by rw [k64]; decide), k64]; rfl
theorem rds_used : (rdC enc mac va h vr used torn vp).set 71 (.int .i64 u) = rdC enc mac va h vr u torn vp := by rw [rdC, List.set_append_right _ _ (by rw [k64]; decide), k64]; rfl
theorem rds_torn : (rdC enc mac va h vr used torn vp).set 72 (.bool b) = rdC enc mac va h vr used b vp := by rw [rdC, List.set_append_right _ _ (by rw [k64]; decide), k64]; rfl
theorem rds_parts : (rdC enc mac va h vr used torn vp).set 73 v = rdC enc mac va h vr used torn v := by rw [rdC, List.set_append_right _ _ (by rw [k64]; decide), k64]; rfl
theorem rdc_log : ((rdC enc mac va h vr used torn vp).drop 65).take 8 = [V h.kind, V h.level, uv .u64 h.gen, uv .u64 h.epoch, uv .u64 h.num, vr, .int .i64 used, .bool torn] := by
  rw [rdC, List.drop_append, List.drop_of_length_le (by rw [k64]; decide), k64]; rfl
theorem rdc_one (h1 : va.oneCell' = true) (h2 : vr.oneCell' = true) (h3 : vp.oneCell' = true) : ∀ u ∈ rdC enc mac va h vr used torn vp, u.oneCell' = true := by
  intro u hu
  rcases List.mem_append.1 hu with hu | hu
  · exact key_one _ _ u hu
  · simp only [List.mem_cons, List.not_mem_nil, or_false] at hu
    rcases hu with rfl | rfl | rfl | rfl | rfl | rfl | rfl | rfl | rfl | rfl <;> first | assumption | rfl
end
theorem rd_build {zs A B Z : List Value} {v w : Value} (hz : zs = A ++ (Z ++ [w])) (hA : A.length = 64) (hZ : Z.length = 9) (f g : Nat → Y) (hB : B.length = 8) : put (put (put zs 0 (ba 32 f ++ ba 32 g)) 64 [v]) 65 B = ba 32 f ++ ba 32 g ++ (v :: B ++ [w]) := by
  subst hz
  have h64 : (ba 32 f ++ ba 32 g).length = 64 := key_len f g
  have e1 : put (A ++ (Z ++ [w])) 0 (ba 32 f ++ ba 32 g) = (ba 32 f ++ ba 32 g) ++ (Z ++ [w]) := by
    unfold put; rw [List.take_zero, List.nil_append, h64, Nat.zero_add, List.drop_left' hA]
  rw [e1]
  generalize hK : ba 32 f ++ ba 32 g = K at h64 ⊢
  obtain ⟨z, Z', rfl⟩ : ∃ z Z', Z = z :: Z' := by cases Z with | nil => cases hZ | cons z Z' => exact ⟨z, Z', rfl⟩
  have hZ' : Z'.length = 8 := by simpa using hZ
  have e2 : put (K ++ (z :: Z' ++ [w])) 64 [v] = K ++ (v :: Z' ++ [w]) := by
    unfold put
    rw [List.take_left' h64, List.drop_append, List.drop_of_length_le (by omega), h64]
    simp
  rw [e2]
  have e3 : put (K ++ (v :: Z' ++ [w])) 65 B = K ++ (v :: B ++ [w]) := by
    unfold put
    have hv : K ++ (v :: Z' ++ [w]) = (K ++ [v]) ++ (Z' ++ [w]) := by simp
    have h65 : (K ++ [v]).length = 65 := by simp [h64]
    rw [hv, List.take_left' h65, List.drop_append, List.drop_of_length_le (by omega), h65, hB, List.drop_left' (by omega)]
    simp
  exact e3
theorem rd_built {zs A B : List Value} {v w z0 z1 z2 z3 z4 z5 z6 z7 z8 : Value} (hz : zs = A ++ [z0, z1, z2, z3, z4, z5, z6, z7, z8, w]) (hA : A.length = 64) (f g : Nat → Y) (hB : B.length = 8) : put (put (put zs 0 (ba 32 f ++ ba 32 g)) 64 [v]) 65 B = ba 32 f ++ ba 32 g ++ (v :: B ++ [w]) :=
  rd_build (Z := [z0, z1, z2, z3, z4, z5, z6, z7, z8]) hz hA rfl f g hB
theorem rd_ok {zs A B : List Value} {v : Value} (hz : zs.length = 74) (hA : A.length = 64) (hB : B.length = 8) : bOk zs.length [(0, 64), (64, 1), (65, 8)] [A, [v], B] = true := by
  simp [bOk, hz, hA, hB]
theorem rdz_len {f g : Nat → Y} {z0 z1 z2 z3 z4 z5 z6 z7 z8 w : Value} : (ba 32 f ++ ba 32 g ++ [z0, z1, z2, z3, z4, z5, z6, z7, z8, w]).length = 74 := by
  rw [List.length_append, key_len]; rfl
/-! ### One piece is taken -/
def takeS (op : Nat → List Y → Option (List Y)) (parts : List Y) (recs : List (List Y)) (kind : Y) (p : List Y) : Option (List Y × List (List Y)) :=
  if wrongP kind p.length (!parts.isEmpty) = true then none
  else if kind = 1#8 ∨ kind = 4#8 then (op recs.length (parts ++ p)).map (fun x => ([], recs ++ [x]))
  else some (parts ++ p, recs)
theorem rd_take {op : Nat → List Y → Option (List Y)} {tot : Nat} {r parts p : List Y} {recs : List (List Y)} {used n : Nat} (h : ¬ r.length < 7) (en : n = pieceN r) (hn : ¬ (n = 0 ∨ 128 < n)) (ht : ¬ r.length < 7 + n) (ep : p = (r.drop 7).take n) (hf : frameL (r.getD 6 0) p = r.take 7) :
    readL op tot r parts recs used = match takeS op parts recs (r.getD 6 0) p with
      | none => none
      | some (a, b) => readL op tot (r.drop (7 + n)) a b (if a.isEmpty then tot - (r.drop (7 + n)).length else used) := by
  subst en; subst ep
  have hpl : ((r.drop 7).take (pieceN r)).length = pieceN r := by rw [List.length_take, List.length_drop]; omega
  unfold takeS
  rw [hpl]
  by_cases hw : wrongP (r.getD 6 0) (pieceN r) (!parts.isEmpty) = true
  · rw [if_pos hw, rd_no h hn ht (.inr hw)]
  · rw [if_neg hw]
    have hc : ¬ (frameL (r.getD 6 0) ((r.drop 7).take (pieceN r)) ≠ r.take 7 ∨ wrongP (r.getD 6 0) (pieceN r) (!parts.isEmpty) = true) := by
      rintro (h1 | h1)
      · exact h1 hf
      · exact hw h1
    by_cases hk : r.getD 6 0 = 1#8 ∨ r.getD 6 0 = 4#8
    · rw [if_pos hk]
      cases hx : op recs.length (parts ++ (r.drop 7).take (pieceN r)) with
      | none => rw [rd_shut h hn ht hc hk hx]; rfl
      | some x => rw [rd_rec h hn ht hc hk hx]; rfl
    · rw [if_neg hk, rd_go h hn ht hc hk]
      have : (parts ++ (r.drop 7).take (pieceN r)).isEmpty = false := by
        cases hq : parts ++ (r.drop 7).take (pieceN r) with
        | nil =>
          have := congrArg List.length hq
          rw [List.length_append, hpl, List.length_nil] at this
          omega
        | cons a l => rfl
      simp only [this]
      rfl
theorem emp_oa {G : PM} {s : Sh} {parts : List Y} (hs : SlR G 1 encY s parts) (h0 : parts = [] → s = ⟨none, 0⟩) : s.oa.isNone = parts.isEmpty := by
  cases parts with
  | nil => rw [h0 rfl]; rfl
  | cons a l => rw [hs.there (by simp)]; rfl
theorem take_full {op : Nat → List Y → Option (List Y)} {parts p : List Y} {recs : List (List Y)} {kind : Y} (hk : kind = 1#8) (hb : parts.isEmpty = false) : takeS op parts recs kind p = none := by
  subst hk; unfold takeS wrongP; simp [hb]
theorem take_first {op : Nat → List Y → Option (List Y)} {parts p : List Y} {recs : List (List Y)} {kind : Y} (hk : kind = 2#8) (hb : parts.isEmpty = false ∨ p.length < 128) : takeS op parts recs kind p = none := by
  subst hk; unfold takeS wrongP; rcases hb with hb | hb <;> simp [hb]
theorem take_mid {op : Nat → List Y → Option (List Y)} {parts p : List Y} {recs : List (List Y)} {kind : Y} (hk : kind = 3#8) (hb : parts.isEmpty = true ∨ p.length < 128) : takeS op parts recs kind p = none := by
  subst hk; unfold takeS wrongP; rcases hb with hb | hb <;> simp [hb]
theorem take_last {op : Nat → List Y → Option (List Y)} {parts p : List Y} {recs : List (List Y)} {kind : Y} (hk : kind = 4#8) (hb : parts.isEmpty = true) : takeS op parts recs kind p = none := by
  subst hk; unfold takeS wrongP; simp [hb]
theorem take_other {op : Nat → List Y → Option (List Y)} {parts p : List Y} {recs : List (List Y)} {kind : Y} (h1 : ¬ kind = 1#8) (h2 : ¬ kind = 2#8) (h3 : ¬ kind = 3#8) (h4 : ¬ kind = 4#8) : takeS op parts recs kind p = none := by
  unfold takeS wrongP; simp [h1, h2, h3, h4]
theorem take_go {op : Nat → List Y → Option (List Y)} {parts p : List Y} {recs : List (List Y)} {kind : Y} (hk : kind = 2#8 ∧ parts.isEmpty = true ∨ kind = 3#8 ∧ parts.isEmpty = false) (hp : ¬ p.length < 128) : takeS op parts recs kind p = some (parts ++ p, recs) := by
  rcases hk with ⟨rfl, hb⟩ | ⟨rfl, hb⟩ <;> (unfold takeS wrongP; simp [hb, hp])
theorem take_end {op : Nat → List Y → Option (List Y)} {parts p : List Y} {recs : List (List Y)} {kind : Y} (hk : kind = 1#8 ∧ parts.isEmpty = true ∨ kind = 4#8 ∧ parts.isEmpty = false) : takeS op parts recs kind p = (op recs.length (parts ++ p)).map (fun x => ([], recs ++ [x])) := by
  rcases hk with ⟨rfl, hb⟩ | ⟨rfl, hb⟩ <;> (unfold takeS wrongP; simp [hb])
theorem byte_eq {x : Y} {n : Nat} (hn : n < 256) : ((x.toNat : Int) = (n : Int)) ↔ x = BitVec.ofNat 8 n := by
  constructor
  · intro h
    apply BitVec.eq_of_toNat_eq
    rw [BitVec.toNat_ofNat]; omega
  · intro h; rw [h, BitVec.toNat_ofNat, Nat.mod_eq_of_lt (by omega)]
end Go.Tan
