/- Messages: what is written is read. -/
import Derived.Test.YtjamfmnlhiolkaaD7
import Derived.Test.YtjamfmnlhiolkaaE4
import Derived.Test.YtjamfmnlhiolkaaG2
set_option linter.unusedVariables false
set_option linter.unusedSimpArgs false
namespace Go.Proofs.Ytjamfmnlhiolkaa
open Go Av
set_option maxRecDepth 20000
theorem dbits_get (d : ByteArray) (a n j : Nat) (h : j < n) : (dbits d a n).getD j 0 = bitD d (a + j) := by
  rw [List.getD_eq_getElem?_getD, dbits, List.getElem?_map, List.getElem?_range h]; rfl
/-- Numbers whose bits stand there are read. -/
theorem rdN_at {d : ByteArray} {bs xs ys : List Int} {w : Nat} {x : Int} (hd : dbits d 0 bs.length = bs) (h : bs = xs ++ bitsOf w x ++ ys) (hx : 0 ≤ x ∧ x < 2 ^ w) : rdN d xs.length w = x := by
  have hl := congrArg List.length h
  rw [List.length_append, List.length_append, bitsOf_len] at hl
  have := rdN_of d xs.length w x (fun j hj => by
    have e := dbits_get d 0 bs.length (xs.length + j) (by omega)
    rw [Nat.zero_add, hd] at e
    rw [← e, ← bitsOf_get w x j hj, h, List.getD_eq_getElem?_getD, List.getD_eq_getElem?_getD, List.append_assoc, List.getElem?_append_right (by omega), Nat.add_sub_cancel_left, List.getElem?_append_left (by rw [bitsOf_len]; exact hj)]) w (Nat.le_refl _)
  rw [this, Nat.sub_self, Int.emod_eq_of_lt hx.1 hx.2]
  simp
theorem uns_of {d : ByteArray} {bs xs ys : List Int} {w : Nat} {x : Int} {a a' : Nat} (hd : dbits d 0 bs.length = bs) (hl : bs.length ≤ 8 * d.size) (h : bs = xs ++ bitsOf w x ++ ys) (hw : 1 ≤ w ∧ w ≤ 63) (hx : 0 ≤ x ∧ x < 2 ^ w) (ha : a = xs.length) (ha' : a' = a + w) : unsR d a 0 w = (x, a', 0) := by
  have hll := congrArg List.length h
  rw [List.length_append, List.length_append, bitsOf_len] at hll
  subst ha ha'
  unfold unsR fieldR
  rw [if_neg (by simp), decide_eq_true (by omega), if_neg (by simp), if_neg (by omega)]
  rw [show ((w : Int)).toNat = w from rfl, rdN_at hd h hx]
theorem flg_of {d : ByteArray} {bs xs ys : List Int} {r : Bool} {a a' : Nat} (hd : dbits d 0 bs.length = bs) (hl : bs.length ≤ 8 * d.size) (h : bs = xs ++ bitsOf 1 (if r = true then 1 else 0) ++ ys) (ha : a = xs.length) (ha' : a' = a + 1) : flgR d a 0 = (r, a', 0) := by
  have hll := congrArg List.length h
  rw [List.length_append, List.length_append, bitsOf_len] at hll
  subst ha ha'
  unfold flgR fieldR
  rw [if_neg (by simp), if_neg (by simp), if_neg (by omega)]
  rw [show ((1 : Int)).toNat = 1 from rfl, rdN_at hd h (by cases r <;> simp)]
  cases r <;> rfl
/-- What was read without an error stood there. -/
theorem uns_bits {d : ByteArray} {a a' : Nat} {e w v : Int} (h : unsR d a e w = (v, a', 0)) (ha : a ≤ 8 * d.size) (hw : 1 ≤ w ∧ w ≤ 63) : e = 0 ∧ a' = a + w.toNat ∧ a' ≤ 8 * d.size ∧ dbits d 0 a' = dbits d 0 a ++ bitsOf w.toNat v := by
  unfold unsR at h
  rcases fieldR_cases h with ⟨h1, _⟩ | ⟨_, h2, _, h4, h5, h6⟩
  · exact absurd rfl h1
  · refine ⟨h2, h4, by omega, ?_⟩
    rw [h4, dbits_app, Nat.zero_add, h5, bits_rd]
theorem flg_bits {d : ByteArray} {a a' : Nat} {e : Int} {v : Bool} (h : flgR d a e = (v, a', 0)) (ha : a ≤ 8 * d.size) : e = 0 ∧ a' = a + 1 ∧ a' ≤ 8 * d.size ∧ dbits d 0 a' = dbits d 0 a ++ bitsOf 1 (if v = true then 1 else 0) := by
  unfold flgR at h
  obtain ⟨v1, a1, e1, h1⟩ : ∃ v1 a1 e1, fieldR d a e true 1 = (v1, a1, e1) := ⟨_, _, _, rfl⟩
  rw [h1] at h
  simp only [Prod.mk.injEq] at h
  obtain ⟨rfl, rfl, rfl⟩ := h
  rcases fieldR_cases h1 with ⟨h1, _⟩ | ⟨_, h2, _, h4, h5, h6⟩
  · exact absurd rfl h1
  · refine ⟨h2, h4, by omega, ?_⟩
    have hb := rdN_bd d a 1
    rw [h4, show (1 : Int).toNat = 1 from rfl, dbits_app, Nat.zero_add, ← bits_rd]
    congr 2
    rw [h5, show (1 : Int).toNat = 1 from rfl]
    simp only [decide_eq_true_eq]
    rw [show ((if rdN d a 1 = 1 then 1 else 0 : Int)) = rdN d a 1 from by split <;> omega]
    exact (bits_rd d a 1).symm
theorem close_zero {d : ByteArray} {a : Nat} {e : Int} (ha : a ≤ 8 * d.size) : closeR d a e = 0 ↔ e = 0 ∧ 8 * d.size - a < 8 ∧ ∀ j, a ≤ j → j < 8 * d.size → bitD d j = 0 := by
  unfold closeR
  by_cases he : e = 0
  · subst he
    rw [if_neg (by simp)]
    by_cases h : 8 ≤ 8 * d.size - a ∨ rdN d a (8 * d.size - a) ≠ 0
    · rw [if_pos h]
      refine ⟨fun h => (by cases h), fun ⟨_, h1, h2⟩ => ?_⟩
      rcases h with h | h
      · omega
      · refine absurd ?_ h
        have := rdN_of d a (8 * d.size - a) 0 (fun j hj => by rw [h2 _ (by omega) (by omega)]; simp) _ (Nat.le_refl _)
        rw [this]
        simp
    · rw [if_neg h]
      refine ⟨fun _ => ⟨rfl, by omega, fun j h1 h2 => ?_⟩, fun _ => rfl⟩
      have h0 : rdN d a (8 * d.size - a) = 0 := Decidable.byContradiction fun h3 => h (.inr h3)
      have := rdN_get d a (8 * d.size - a) (j - a) (by omega)
      rw [h0, show a + (j - a) = j by omega] at this
      rw [← this]
      simp
  · rw [if_pos he]
    exact ⟨fun h => absurd h he, fun h => absurd h.1 he⟩
theorem dbits_pk (bs : List Int) (hb : ∀ b ∈ bs, b = 0 ∨ b = 1) : dbits (pkB bs) 0 bs.length = bs := by
  apply List.ext_getElem?
  intro j
  rcases Nat.lt_or_ge j bs.length with h | h
  · have e := pkB_bit bs hb j
    rw [if_pos h, List.getD_eq_getElem?_getD, List.getElem?_eq_getElem h] at e
    rw [dbits, List.getElem?_map, List.getElem?_range h, List.getElem?_eq_getElem h]
    simpa using e
  · rw [List.getElem?_eq_none (by rw [dbits_len]; exact h), List.getElem?_eq_none h]
theorem pk_le (bs : List Int) : bs.length ≤ 8 * (pkB bs).size := by rw [pkB_size]; omega
theorem close_pk (bs : List Int) (hb : ∀ b ∈ bs, b = 0 ∨ b = 1) : closeR (pkB bs) bs.length 0 = 0 := by
  rw [close_zero (pk_le bs)]
  refine ⟨rfl, by rw [pkB_size]; omega, fun j h1 _ => ?_⟩
  rw [pkB_bit bs hb, if_neg (by omega)]
theorem pk_close {d : ByteArray} {a : Nat} {e : Int} (ha : a ≤ 8 * d.size) (h : closeR d a e = 0) : pkB (dbits d 0 a) = d := by
  obtain ⟨_, h1, h2⟩ := (close_zero ha).1 h
  exact pkB_dbits d a (by omega) h2
theorem byteAt_app (d t : ByteArray) (i : Nat) (h : i < d.size) : byteAt (d ++ t) i = byteAt d i := by
  unfold byteAt
  simp only [ByteArray.data_append]
  rw [Array.toList_append, List.getD_eq_getElem?_getD, List.getD_eq_getElem?_getD, List.getElem?_append_left (by simpa using h)]
theorem dbits_ext (d t : ByteArray) (a : Nat) (h : a ≤ 8 * d.size) : dbits (d ++ t) 0 a = dbits d 0 a := by
  unfold dbits
  apply List.map_congr_left
  intro j hj
  have := List.mem_range.1 hj
  unfold bitD
  rw [byteAt_app d t _ (by omega)]
theorem plR_of {d : ByteArray} {bs xs ys : List Int} {S : List Sp} (hd : dbits d 0 bs.length = bs) (hl : bs.length ≤ 8 * d.size) (h : bs = xs ++ spB S ++ ys) (hS : ∀ p ∈ S, 0 ≤ p.1 ∧ p.1 < 512 ∧ 0 ≤ p.2.1 ∧ p.2.1 < 16) : ∀ i, i ≤ S.length → plR d xs.length 0 i = (S.take i, xs.length + 13 * i, 0)
  | 0, _ => by simp [plR]
  | i + 1, hi => by
    obtain ⟨⟨a, e, u⟩, hq⟩ : ∃ q, S[i]? = some q := ⟨_, List.getElem?_eq_getElem (by omega)⟩
    have ih := plR_of hd hl h hS i (by omega)
    obtain ⟨r1, r2, r3, r4⟩ := hS _ (List.mem_of_getElem? hq)
    dsimp only at r1 r2 r3 r4
    have hsp : spB S = spB (S.take i) ++ bitsOf 9 a ++ bitsOf 4 e ++ spB (S.drop (i + 1)) := by
      have := spB_snoc hq []
      simp only [List.nil_append] at this
      rw [this]
      unfold spB
      rw [← List.flatMap_append, List.take_append_drop]
    have e1 : bs = (xs ++ spB (S.take i)) ++ bitsOf 9 a ++ (bitsOf 4 e ++ spB (S.drop (i + 1)) ++ ys) := by rw [h, hsp]; simp only [List.append_assoc]
    have e2 : bs = (xs ++ spB (S.take i) ++ bitsOf 9 a) ++ bitsOf 4 e ++ (spB (S.drop (i + 1)) ++ ys) := by rw [h, hsp]; simp only [List.append_assoc]
    have hlen : (xs ++ spB (S.take i)).length = xs.length + 13 * i := by rw [List.length_append, spB_len, List.length_take]; omega
    have h1 := uns_of (a := xs.length + 13 * i) (a' := xs.length + 13 * i + 9) hd hl e1 (by decide) (by omega) hlen.symm rfl
    have h2 := uns_of (a := xs.length + 13 * i + 9) (a' := xs.length + 13 * (i + 1)) hd hl e2 (by decide) (by omega) (by rw [List.length_append, hlen, bitsOf_len]) (by omega)
    have := plR_succ ih h1 h2
    rw [this, take_snoc hq]
theorem plR_bits {d : ByteArray} : ∀ (k : Nat) {a a' : Nat} {e : Int} {L : List Sp}, plR d a e k = (L, a', 0) → a ≤ 8 * d.size → e = 0 ∧ a' ≤ 8 * d.size ∧ dbits d 0 a' = dbits d 0 a ++ spB L
  | 0, a, a', e, L, h, ha => by
    simp only [plR, Prod.mk.injEq] at h
    obtain ⟨rfl, rfl, rfl⟩ := h
    exact ⟨rfl, ha, by simp [spB]⟩
  | k + 1, a, a', e, L, h, ha => by
    obtain ⟨L0, a0, e0, h0⟩ : ∃ x y z, plR d a e k = (x, y, z) := ⟨_, _, _, rfl⟩
    obtain ⟨v1, a1, e1, h1⟩ : ∃ x y z, unsR d a0 e0 9 = (x, y, z) := ⟨_, _, _, rfl⟩
    obtain ⟨v2, a2, e2, h2⟩ : ∃ x y z, unsR d a1 e1 4 = (x, y, z) := ⟨_, _, _, rfl⟩
    rw [plR_succ h0 h1 h2] at h
    simp only [Prod.mk.injEq] at h
    obtain ⟨rfl, rfl, rfl⟩ := h
    have l0 := plR_le h0 ha
    have l1 := unsR_le h1 l0 (by decide)
    obtain ⟨rfl, q1, q2, q3⟩ := uns_bits h2 l1 (by decide)
    obtain ⟨rfl, p1, p2, p3⟩ := uns_bits h1 l0 (by decide)
    obtain ⟨hz, o2, o3⟩ := plR_bits k h0 ha
    refine ⟨hz, q2, ?_⟩
    rw [q3, p3, o3]
    unfold spB
    simp only [List.flatMap_append, List.append_assoc, List.flatMap_cons, List.flatMap_nil, List.append_nil]
    rfl
structure MOK (k n c cnt : Int) (S O : List Sp) : Prop where
  k : 0 ≤ k ∧ k < 8
  n : 0 ≤ n ∧ n < 256
  c : 0 ≤ c ∧ c < 4
  cnt : 0 ≤ cnt ∧ cnt < 1024
  sl : S.length < 16
  ol : O.length < 16
  s : ∀ p ∈ S, 0 ≤ p.1 ∧ p.1 < 512 ∧ 0 ≤ p.2.1 ∧ p.2.1 < 16
  o : ∀ p ∈ O, 0 ≤ p.1 ∧ p.1 < 512 ∧ 0 ≤ p.2.1 ∧ p.2.1 < 16
theorem rdM_of {cap : Int → Int} {d : ByteArray} {k n c cnt : Int} {r : Bool} {S O : List Sp} (hd : dbits d 0 (msgB k n c cnt r S O).length = msgB k n c cnt r S O) (hl : (msgB k n c cnt r S O).length ≤ 8 * d.size) (hm : MOK k n c cnt S O) (hS : cap S.length = S.length) (hO : cap O.length = O.length) :
    rdM cap d = ((k, r, n, c, cnt, S, O), (msgB k n c cnt r S O).length, 0) := by
  have hlen := msgB_len k n c cnt r S O
  have hbs : msgB k n c cnt r S O = bitsOf 3 k ++ (bitsOf 1 (if r = true then 1 else 0) ++ (bitsOf 8 n ++ (bitsOf 2 c ++ (bitsOf 10 cnt ++ (bitsOf 4 S.length ++ (spB S ++ (bitsOf 4 O.length ++ spB O))))))) := by
    unfold msgB liB
    simp only [List.append_assoc]
  generalize msgB k n c cnt r S O = bs at *
  have b1 : (bitsOf 3 k).length = 3 := bitsOf_len _ _
  have b2 : (bitsOf 1 (if r = true then 1 else 0)).length = 1 := bitsOf_len _ _
  have b3 : (bitsOf 8 n).length = 8 := bitsOf_len _ _
  have b4 : (bitsOf 2 c).length = 2 := bitsOf_len _ _
  have b5 : (bitsOf 10 cnt).length = 10 := bitsOf_len _ _
  have b6 : (bitsOf 4 (S.length : Int)).length = 4 := bitsOf_len _ _
  have b7 := spB_len S
  have b8' : (bitsOf 4 (O.length : Int)).length = 4 := bitsOf_len _ _
  have hsl := hm.sl
  have hol := hm.ol
  have h1 : unsR d 0 0 3 = (k, 3, 0) := uns_of (xs := []) hd hl (by rw [hbs]; rfl) (by decide) hm.k rfl rfl
  have h2 : flgR d 3 0 = (r, 4, 0) := flg_of (xs := bitsOf 3 k) hd hl (by rw [hbs]; simp only [List.append_assoc]; first | done | rfl) b1.symm rfl
  have h3 : unsR d 4 0 8 = (n, 12, 0) := uns_of (xs := bitsOf 3 k ++ bitsOf 1 (if r = true then 1 else 0)) hd hl (by rw [hbs]; simp only [List.append_assoc]; first | done | rfl) (by decide) hm.n (by simp only [List.length_append]; omega) rfl
  have h4 : unsR d 12 0 2 = (c, 14, 0) := uns_of (xs := bitsOf 3 k ++ bitsOf 1 (if r = true then 1 else 0) ++ bitsOf 8 n) hd hl (by rw [hbs]; simp only [List.append_assoc]; first | done | rfl) (by decide) hm.c (by simp only [List.length_append]; omega) rfl
  have h5 : unsR d 14 0 10 = (cnt, 24, 0) := uns_of (xs := bitsOf 3 k ++ bitsOf 1 (if r = true then 1 else 0) ++ bitsOf 8 n ++ bitsOf 2 c) hd hl (by rw [hbs]; simp only [List.append_assoc]; first | done | rfl) (by decide) hm.cnt (by simp only [List.length_append]; omega) rfl
  have p16 : (2 : Int) ^ 4 = 16 := rfl
  have h6 : unsR d 24 0 4 = ((S.length : Int), 28, 0) := uns_of (w := 4) (xs := bitsOf 3 k ++ bitsOf 1 (if r = true then 1 else 0) ++ bitsOf 8 n ++ bitsOf 2 c ++ bitsOf 10 cnt) hd hl (by rw [hbs]; simp only [List.append_assoc]; first | done | rfl) (by decide) (by rw [p16]; omega) (by simp only [List.length_append]; omega) rfl
  have h7 := plR_of (xs := bitsOf 3 k ++ bitsOf 1 (if r = true then 1 else 0) ++ bitsOf 8 n ++ bitsOf 2 c ++ bitsOf 10 cnt ++ bitsOf 4 S.length) (S := S) (ys := bitsOf 4 O.length ++ spB O) hd hl (by rw [hbs]; simp only [List.append_assoc]; first | done | rfl) hm.s S.length (Nat.le_refl _)
  rw [List.take_length, show (bitsOf 3 k ++ bitsOf 1 (if r = true then 1 else 0) ++ bitsOf 8 n ++ bitsOf 2 c ++ bitsOf 10 cnt ++ bitsOf 4 (S.length : Int)).length = 28 by simp only [List.length_append]; omega] at h7
  have h8 : unsR d (28 + 13 * S.length) 0 4 = ((O.length : Int), 32 + 13 * S.length, 0) := uns_of (w := 4) (xs := bitsOf 3 k ++ bitsOf 1 (if r = true then 1 else 0) ++ bitsOf 8 n ++ bitsOf 2 c ++ bitsOf 10 cnt ++ bitsOf 4 S.length ++ spB S) hd hl (by rw [hbs]; simp only [List.append_assoc]; first | done | rfl) (by decide) (by rw [p16]; omega) (by simp only [List.length_append]; omega) (by omega)
  have h9 := plR_of (xs := bitsOf 3 k ++ bitsOf 1 (if r = true then 1 else 0) ++ bitsOf 8 n ++ bitsOf 2 c ++ bitsOf 10 cnt ++ bitsOf 4 S.length ++ spB S ++ bitsOf 4 O.length) (S := O) (ys := []) hd hl (by rw [hbs]; simp only [List.append_assoc, List.append_nil]) hm.o O.length (Nat.le_refl _)
  rw [List.take_length, show (bitsOf 3 k ++ bitsOf 1 (if r = true then 1 else 0) ++ bitsOf 8 n ++ bitsOf 2 c ++ bitsOf 10 cnt ++ bitsOf 4 (S.length : Int) ++ spB S ++ bitsOf 4 (O.length : Int)).length = 32 + 13 * S.length by simp only [List.length_append]; omega] at h9
  unfold rdM u_ f_ lsR
  dsimp only
  rw [h1]; dsimp only
  rw [h2]; dsimp only
  rw [h3]; dsimp only
  rw [h4]; dsimp only
  rw [h5]; dsimp only
  rw [h6]; dsimp only
  rw [hS, show ((S.length : Int)).toNat = S.length from rfl, h7]; dsimp only
  rw [h8]; dsimp only
  rw [hO, show ((O.length : Int)).toNat = O.length from rfl, h9, hlen]
theorem rdM_bits {d : ByteArray} {k n c cnt : Int} {r : Bool} {S O : List Sp} {a : Nat} (h : rdM id d = ((k, r, n, c, cnt, S, O), a, 0)) : a ≤ 8 * d.size ∧ dbits d 0 a = msgB k n c cnt r S O := by
  obtain ⟨k', a1, e1, h1⟩ : ∃ x y z, unsR d 0 0 3 = (x, y, z) := ⟨_, _, _, rfl⟩
  obtain ⟨r', a2, e2, h2⟩ : ∃ x y z, flgR d a1 e1 = (x, y, z) := ⟨_, _, _, rfl⟩
  obtain ⟨n', a3, e3, h3⟩ : ∃ x y z, unsR d a2 e2 8 = (x, y, z) := ⟨_, _, _, rfl⟩
  obtain ⟨c', a4, e4, h4⟩ : ∃ x y z, unsR d a3 e3 2 = (x, y, z) := ⟨_, _, _, rfl⟩
  obtain ⟨cnt', a5, e5, h5⟩ : ∃ x y z, unsR d a4 e4 10 = (x, y, z) := ⟨_, _, _, rfl⟩
  obtain ⟨p, a6, e6, h6⟩ : ∃ x y z, unsR d a5 e5 4 = (x, y, z) := ⟨_, _, _, rfl⟩
  obtain ⟨S', a7, e7, h7⟩ : ∃ x y z, plR d a6 e6 p.toNat = (x, y, z) := ⟨_, _, _, rfl⟩
  obtain ⟨q, a8, e8, h8⟩ : ∃ x y z, unsR d a7 e7 4 = (x, y, z) := ⟨_, _, _, rfl⟩
  obtain ⟨O', a9, e9, h9⟩ : ∃ x y z, plR d a8 e8 q.toNat = (x, y, z) := ⟨_, _, _, rfl⟩
  unfold rdM u_ f_ lsR at h
  dsimp only [id] at h
  rw [h1] at h; dsimp only at h
  rw [h2] at h; dsimp only at h
  rw [h3] at h; dsimp only at h
  rw [h4] at h; dsimp only at h
  rw [h5] at h; dsimp only at h
  rw [h6] at h; dsimp only at h
  rw [h7] at h; dsimp only at h
  rw [h8] at h; dsimp only at h
  rw [h9] at h
  simp only [Prod.mk.injEq] at h
  obtain ⟨⟨rfl, rfl, rfl, rfl, rfl, rfl, rfl⟩, rfl, rfl⟩ := h
  have l1 := unsR_le h1 (Nat.zero_le _) (by decide)
  have l2 := flgR_le h2 l1
  have l3 := unsR_le h3 l2 (by decide)
  have l4 := unsR_le h4 l3 (by decide)
  have l5 := unsR_le h5 l4 (by decide)
  have l6 := unsR_le h6 l5 (by decide)
  have l7 := plR_le h7 l6
  have l8 := unsR_le h8 l7 (by decide)
  have hp := (unsR_rng h6 (by decide)).1
  have hq := (unsR_rng h8 (by decide)).1
  have sl := plR_len h7
  have ol := plR_len h9
  obtain ⟨rfl, l9, g9⟩ := plR_bits _ h9 l8
  obtain ⟨rfl, _, _, g8⟩ := uns_bits h8 l7 (by decide)
  obtain ⟨rfl, _, g7⟩ := plR_bits _ h7 l6
  obtain ⟨rfl, _, _, g6⟩ := uns_bits h6 l5 (by decide)
  obtain ⟨rfl, _, _, g5⟩ := uns_bits h5 l4 (by decide)
  obtain ⟨rfl, _, _, g4⟩ := uns_bits h4 l3 (by decide)
  obtain ⟨rfl, _, _, g3⟩ := uns_bits h3 l2 (by decide)
  obtain ⟨rfl, _, _, g2⟩ := flg_bits h2 l1
  obtain ⟨_, _, _, g1⟩ := uns_bits h1 (Nat.zero_le _) (by decide)
  refine ⟨l9, ?_⟩
  rw [g9, g8, g7, g6, g5, g4, g3, g2, g1]
  unfold msgB liB
  rw [show ((S'.length : Nat) : Int) = p by omega, show ((O'.length : Nat) : Int) = q by omega]
  simp only [List.append_assoc]
  rfl
theorem chk_MOK {k n c cnt : Int} {r : Bool} {S O : List Sp} (h : chk k n c cnt r S O = 0) : MOK k n c cnt S O := by
  obtain ⟨h1, h2, h3, h4, h5, ⟨h6, h7⟩, _⟩ := chk_zero h
  have hall : ∀ (L : List Sp), spE L = 0 → ∀ p ∈ L, 0 ≤ p.1 ∧ p.1 < 512 ∧ 0 ≤ p.2.1 ∧ p.2.1 < 16 := fun L hL p hp => by
    obtain ⟨j, hj⟩ := List.mem_iff_getElem?.1 hp
    obtain ⟨a, e, u⟩ := p
    obtain ⟨q, _⟩ := spE_at hL hj
    exact ⟨q.1, q.2.1, q.2.2.1, q.2.2.2⟩
  exact ⟨by omega, by omega, by omega, by omega, by omega, by omega, hall S h6, hall O h7⟩
theorem enc_read {m : MsgT} (h : chkM m = 0) (t : ByteArray) (cap : Int → Int) (hc : ∀ z, 0 ≤ z → z ≤ 8 → cap z = z) : rdM cap (encM m ++ t) = (m, (msgB m.1 m.2.2.1 m.2.2.2.1 m.2.2.2.2.1 m.2.1 m.2.2.2.2.2.1 m.2.2.2.2.2.2).length, 0) := by
  obtain ⟨k, r, n, c, cnt, S, O⟩ := m
  have h8 : S.length ≤ 8 ∧ O.length ≤ 8 := (chk_zero h).2.2.2.2.1
  refine rdM_of ?_ ?_ (chk_MOK h) (hc _ (by omega) (by omega)) (hc _ (by omega) (by omega))
  · unfold encM
    rw [dbits_ext _ _ _ (pk_le _)]
    exact dbits_pk _ (msgB_01 k n c cnt r S O)
  · have := pk_le (msgB k n c cnt r S O)
    unfold encM
    rw [ByteArray.size_append]
    dsimp only
    omega
theorem ba_nil (d : ByteArray) : d ++ ByteArray.empty = d := by
  apply ByteArray.ext
  simp
theorem decP_enc {m : MsgT} (h : chkM m = 0) : decP (encM m) = (m, 0) := by
  have hr := enc_read h ByteArray.empty (min · 8) (fun z h1 h2 => by show min z 8 = z; omega)
  rw [ba_nil] at hr
  exact dec_good hr (close_pk _ (msgB_01 _ _ _ _ _ _ _)) h rfl
theorem decR_enc {m : MsgT} (h : chkM m = 0) : decR (encM m) = (m, 0) := by
  have hr := enc_read h ByteArray.empty id (fun z h1 h2 => rfl)
  rw [ba_nil] at hr
  exact rdec_good hr (close_pk _ (msgB_01 _ _ _ _ _ _ _)) h
theorem decP_cases (d : ByteArray) : decP d = (msg0, 10) ∨ ∃ m, decP d = (m, 0) ∧ chkM m = 0 ∧ encM m = d := by
  unfold decP
  by_cases h1 : closeR d (rdM (min · 8) d).2.1 (rdM (min · 8) d).2.2 ≠ 0
  · exact .inl (if_pos h1)
  · rw [if_neg h1]
    by_cases h2 : chkM (rdM (min · 8) d).1 ≠ 0
    · exact .inl (if_pos h2)
    · rw [if_neg h2]
      by_cases h3 : encM (rdM (min · 8) d).1 ≠ d
      · exact .inl (if_pos h3)
      · rw [if_neg h3]
        exact .inr ⟨_, rfl, Decidable.byContradiction h2, Decidable.byContradiction h3⟩
theorem rdM_le (d : ByteArray) : (rdM id d).2.1 ≤ 8 * d.size := by
  obtain ⟨k', a1, e1, h1⟩ : ∃ x y z, unsR d 0 0 3 = (x, y, z) := ⟨_, _, _, rfl⟩
  obtain ⟨r', a2, e2, h2⟩ : ∃ x y z, flgR d a1 e1 = (x, y, z) := ⟨_, _, _, rfl⟩
  obtain ⟨n', a3, e3, h3⟩ : ∃ x y z, unsR d a2 e2 8 = (x, y, z) := ⟨_, _, _, rfl⟩
  obtain ⟨c', a4, e4, h4⟩ : ∃ x y z, unsR d a3 e3 2 = (x, y, z) := ⟨_, _, _, rfl⟩
  obtain ⟨cnt', a5, e5, h5⟩ : ∃ x y z, unsR d a4 e4 10 = (x, y, z) := ⟨_, _, _, rfl⟩
  obtain ⟨p, a6, e6, h6⟩ : ∃ x y z, unsR d a5 e5 4 = (x, y, z) := ⟨_, _, _, rfl⟩
  obtain ⟨S', a7, e7, h7⟩ : ∃ x y z, plR d a6 e6 p.toNat = (x, y, z) := ⟨_, _, _, rfl⟩
  obtain ⟨q, a8, e8, h8⟩ : ∃ x y z, unsR d a7 e7 4 = (x, y, z) := ⟨_, _, _, rfl⟩
  obtain ⟨O', a9, e9, h9⟩ : ∃ x y z, plR d a8 e8 q.toNat = (x, y, z) := ⟨_, _, _, rfl⟩
  unfold rdM u_ f_ lsR
  dsimp only [id]
  rw [h1]; dsimp only
  rw [h2]; dsimp only
  rw [h3]; dsimp only
  rw [h4]; dsimp only
  rw [h5]; dsimp only
  rw [h6]; dsimp only
  rw [h7]; dsimp only
  rw [h8]; dsimp only
  rw [h9]
  exact plR_le h9 (unsR_le h8 (plR_le h7 (unsR_le h6 (unsR_le h5 (unsR_le h4 (unsR_le h3 (flgR_le h2 (unsR_le h1 (Nat.zero_le _) (by decide))) (by decide)) (by decide)) (by decide)) (by decide))) (by decide))
theorem decR_cases (d : ByteArray) : decR d = (msg0, 10) ∨ ∃ m, decR d = (m, 0) ∧ chkM m = 0 ∧ encM m = d := by
  obtain ⟨⟨k, r, n, c, cnt, S, O⟩, a, e, h⟩ : ∃ x y z, rdM id d = (x, y, z) := ⟨_, _, _, rfl⟩
  have hle := rdM_le d
  rw [h] at hle
  by_cases h1 : closeR d a e = 0
  · by_cases h2 : chkM (k, r, n, c, cnt, S, O) = 0
    · refine .inr ⟨_, rdec_good h h1 h2, h2, ?_⟩
      obtain ⟨rfl, _⟩ := (close_zero hle).1 h1
      obtain ⟨_, hb⟩ := rdM_bits h
      have := pk_close hle h1
      rw [← this]
      dsimp only
      rw [hb]
      rfl
    · exact .inl (rdec_bad2 h h1 h2)
  · exact .inl (rdec_bad1 h h1)
/-- Both read the same. -/
theorem dec_same (d : ByteArray) : decP d = decR d := by
  rcases decP_cases d with h | ⟨m, h, h2, h3⟩
  · rcases decR_cases d with g | ⟨m', g, g2, g3⟩
    · rw [h, g]
    · have := decP_enc g2
      rw [g3, h] at this
      simp at this
  · have := decR_enc h2
    rw [h3] at this
    rw [h, this]
/-- No message's bytes begin with another one's. -/
theorem enc_prefix {m m' : MsgT} (h : chkM m = 0) (h' : chkM m' = 0) (t : ByteArray) (e : encM m' = encM m ++ t) : m' = m ∧ t.size = 0 := by
  have h1 := enc_read h t (min · 8) (fun z h1 h2 => by show min z 8 = z; omega)
  have h2 := enc_read h' ByteArray.empty (min · 8) (fun z h1 h2 => by show min z 8 = z; omega)
  rw [ba_nil, e, h1] at h2
  have hm := (Prod.mk.inj h2).1
  subst hm
  refine ⟨rfl, ?_⟩
  have := congrArg ByteArray.size e
  rw [ByteArray.size_append] at this
  omega
theorem enc_size {m : MsgT} (h : chkM m = 0) : 0 < (encM m).size ∧ (encM m).size ≤ 32 := by
  have h8 := (chk_zero h).2.2.2.2.1
  unfold encM
  rw [pkB_size, msgB_len]
  omega
/-- What Decode returns, and what is written of it. -/
theorem dec_back (d : ByteArray) : ∃ k r n c cnt S O x, decP d = ((k, r, n, c, cnt, S, O), x) ∧ S.length ≤ 8 ∧ O.length ≤ 8 ∧ (x = 10 ∨ (x = 0 ∧ chk k n c cnt r S O = 0 ∧ pkB (msgB k n c cnt r S O) = d)) := by
  rcases decP_cases d with h | ⟨⟨k, r, n, c, cnt, S, O⟩, h, h2, h3⟩
  · exact ⟨_, _, _, _, _, _, _, _, h, by decide, by decide, .inl rfl⟩
  · have h8 := (chk_zero h2).2.2.2.2.1
    exact ⟨_, _, _, _, _, _, _, _, h, h8.1, h8.2, .inr ⟨rfl, h2, h3⟩⟩
end Go.Proofs.Ytjamfmnlhiolkaa
