/- Bits: what stands there is read, what is read stood there; Join: bytes written and read (plain); Join: what is written is read, what is read is written; JoinBack: the law. -/
import Derived.Test.YtdbcbclapipgdaaGreatDoorVO
import Derived.Test.YtdbcbclapipgdaaGreatDoorJ
import Derived.Test.YtdbcbclapipgdaaGreatDoorC16
import Derived.Test.YtdbcbclapipgdaaGreatDoorC47
import Derived.Test.YtdbcbclapipgdaaGreatDoorC50
import Derived.Test.YtdbcbclapipgdaaGreatDoorC51
set_option linter.unusedVariables false
set_option linter.unusedSimpArgs false
namespace Go.Proofs.YtdbcbclapipgdaaGreatDoor
open Go Av
set_option maxRecDepth 20000
theorem dbits_get (d : ByteArray) (a n j : Nat) (h : j < n) : (dbits d a n).getD j 0 = bitD d (a + j) := by
  rw [List.getD_eq_getElem?_getD, dbits, List.getElem?_map, List.getElem?_range h]; rfl
/-- Numbers whose bits stand there are read. -/
theorem rdN_at {d : ByteArray} {bs xs ys : List Int} {w : Nat} {x : Int} (hd : dbits d 0 bs.length = bs) (h : bs = xs ++ bitsOf w x ++ ys) (hx : 0 ≤ x ∧ x < 2 ^ w) : rdN d xs.length w = x := by
  have hl := congrArg List.length h
  rw [List.length_append, List.length_append, bitsOf_len] at hl
  have := rdN_of d xs.length w x (fun j hj => by
    have e := dbits_get d 0 bs.length (xs.length + j) (by omega)
    rw [Nat.zero_add, hd] at e
    rw [← e, ← bitsOf_get w x j hj, h, List.getD_eq_getElem?_getD, List.getD_eq_getElem?_getD, List.append_assoc, List.getElem?_append_right (by omega), Nat.add_sub_cancel_left, List.getElem?_append_left (by rw [bitsOf_len]; exact hj)]) w (Nat.le_refl _)
  rw [this, Nat.sub_self, Int.emod_eq_of_lt hx.1 hx.2]
  simp
theorem uns_of {d : ByteArray} {bs xs ys : List Int} {w : Nat} {x : Int} {a a' : Nat} (hd : dbits d 0 bs.length = bs) (hl : bs.length ≤ 8 * d.size) (h : bs = xs ++ bitsOf w x ++ ys) (hw : 1 ≤ w ∧ w ≤ 63) (hx : 0 ≤ x ∧ x < 2 ^ w) (ha : a = xs.length) (ha' : a' = a + w) : unsR d a 0 w = (x, a', 0) := by
  have hll := congrArg List.length h
  rw [List.length_append, List.length_append, bitsOf_len] at hll
  subst ha ha'
  unfold unsR fieldR
  rw [if_neg (by simp), decide_eq_true (by omega), if_neg (by simp), if_neg (by omega)]
  rw [show ((w : Int)).toNat = w from rfl, rdN_at hd h hx]
theorem flg_of {d : ByteArray} {bs xs ys : List Int} {r : Bool} {a a' : Nat} (hd : dbits d 0 bs.length = bs) (hl : bs.length ≤ 8 * d.size) (h : bs = xs ++ bitsOf 1 (if r = true then 1 else 0) ++ ys) (ha : a = xs.length) (ha' : a' = a + 1) : flgR d a 0 = (r, a', 0) := by
  have hll := congrArg List.length h
  rw [List.length_append, List.length_append, bitsOf_len] at hll
  subst ha ha'
  unfold flgR fieldR
  rw [if_neg (by simp), if_neg (by simp), if_neg (by omega)]
  rw [show ((1 : Int)).toNat = 1 from rfl, rdN_at hd h (by cases r <;> simp)]
  cases r <;> rfl
/-- What was read without an error stood there. -/
theorem uns_bits {d : ByteArray} {a a' : Nat} {e w v : Int} (h : unsR d a e w = (v, a', 0)) (ha : a ≤ 8 * d.size) (hw : 1 ≤ w ∧ w ≤ 63) : e = 0 ∧ a' = a + w.toNat ∧ a' ≤ 8 * d.size ∧ dbits d 0 a' = dbits d 0 a ++ bitsOf w.toNat v := by
  unfold unsR at h
  rcases fieldR_cases h with ⟨h1, _⟩ | ⟨_, h2, _, h4, h5, h6⟩
  · exact absurd rfl h1
  · refine ⟨h2, h4, by omega, ?_⟩
    rw [h4, dbits_app, Nat.zero_add, h5, bits_rd]
theorem flg_bits {d : ByteArray} {a a' : Nat} {e : Int} {v : Bool} (h : flgR d a e = (v, a', 0)) (ha : a ≤ 8 * d.size) : e = 0 ∧ a' = a + 1 ∧ a' ≤ 8 * d.size ∧ dbits d 0 a' = dbits d 0 a ++ bitsOf 1 (if v = true then 1 else 0) := by
  unfold flgR at h
  obtain ⟨v1, a1, e1, h1⟩ : ∃ v1 a1 e1, fieldR d a e true 1 = (v1, a1, e1) := ⟨_, _, _, rfl⟩
  rw [h1] at h
  simp only [Prod.mk.injEq] at h
  obtain ⟨rfl, rfl, rfl⟩ := h
  rcases fieldR_cases h1 with ⟨h1, _⟩ | ⟨_, h2, _, h4, h5, h6⟩
  · exact absurd rfl h1
  · refine ⟨h2, h4, by omega, ?_⟩
    have hb := rdN_bd d a 1
    rw [h4, show (1 : Int).toNat = 1 from rfl, dbits_app, Nat.zero_add, ← bits_rd]
    congr 2
    rw [h5, show (1 : Int).toNat = 1 from rfl]
    simp only [decide_eq_true_eq]
    rw [show ((if rdN d a 1 = 1 then 1 else 0 : Int)) = rdN d a 1 from by split <;> omega]
    exact (bits_rd d a 1).symm
theorem close_zero {d : ByteArray} {a : Nat} {e : Int} (ha : a ≤ 8 * d.size) : closeR d a e = 0 ↔ e = 0 ∧ 8 * d.size - a < 8 ∧ ∀ j, a ≤ j → j < 8 * d.size → bitD d j = 0 := by
  unfold closeR
  by_cases he : e = 0
  · subst he
    rw [if_neg (by simp)]
    by_cases h : 8 ≤ 8 * d.size - a ∨ rdN d a (8 * d.size - a) ≠ 0
    · rw [if_pos h]
      refine ⟨fun h => (by cases h), fun ⟨_, h1, h2⟩ => ?_⟩
      rcases h with h | h
      · omega
      · refine absurd ?_ h
        have := rdN_of d a (8 * d.size - a) 0 (fun j hj => by rw [h2 _ (by omega) (by omega)]; simp) _ (Nat.le_refl _)
        rw [this]
        simp
    · rw [if_neg h]
      refine ⟨fun _ => ⟨rfl, by omega, fun j h1 h2 => ?_⟩, fun _ => rfl⟩
      have h0 : rdN d a (8 * d.size - a) = 0 := Decidable.byContradiction fun h3 => h (.inr h3)
      have := rdN_get d a (8 * d.size - a) (j - a) (by omega)
      rw [h0, show a + (j - a) = j by omega] at this
      rw [← this]
      simp
  · rw [if_pos he]
    exact ⟨fun h => absurd h he, fun h => absurd h.1 he⟩
theorem dbits_pk (bs : List Int) (hb : ∀ b ∈ bs, b = 0 ∨ b = 1) : dbits (pkB bs) 0 bs.length = bs := by
  apply List.ext_getElem?
  intro j
  rcases Nat.lt_or_ge j bs.length with h | h
  · have e := pkB_bit bs hb j
    rw [if_pos h, List.getD_eq_getElem?_getD, List.getElem?_eq_getElem h] at e
    rw [dbits, List.getElem?_map, List.getElem?_range h, List.getElem?_eq_getElem h]
    simpa using e
  · rw [List.getElem?_eq_none (by rw [dbits_len]; exact h), List.getElem?_eq_none h]
theorem pk_le (bs : List Int) : bs.length ≤ 8 * (pkB bs).size := by rw [pkB_size]; omega
theorem close_pk (bs : List Int) (hb : ∀ b ∈ bs, b = 0 ∨ b = 1) : closeR (pkB bs) bs.length 0 = 0 := by
  rw [close_zero (pk_le bs)]
  refine ⟨rfl, by rw [pkB_size]; omega, fun j h1 _ => ?_⟩
  rw [pkB_bit bs hb, if_neg (by omega)]
theorem pk_close {d : ByteArray} {a : Nat} {e : Int} (ha : a ≤ 8 * d.size) (h : closeR d a e = 0) : pkB (dbits d 0 a) = d := by
  obtain ⟨_, h1, h2⟩ := (close_zero ha).1 h
  exact pkB_dbits d a (by omega) h2
def B01 (l : List Int) : Prop := ∀ b ∈ l, b = 0 ∨ b = 1
theorem fieldR_back (bs xs ys : List Int) (hb : B01 bs) (w : Nat) (x : Int) (h : bs = xs ++ bitsOf w x ++ ys) (hx : 0 ≤ x ∧ x < 2 ^ w) : fieldR (pkB bs) xs.length 0 true w = (x, xs.length + w, 0) := by
  have hl := congrArg List.length h
  rw [List.length_append, List.length_append, bitsOf_len] at hl
  have hs := pkB_size bs
  unfold fieldR
  rw [if_neg (by simp), if_neg (by simp), if_neg (by omega)]
  rw [show ((w : Int)).toNat = w from rfl, rdN_bits bs hb xs ys w x h, Int.emod_eq_of_lt hx.1 hx.2]
theorem rdB_back (bs xs ys : List Int) (hb : B01 bs) (s : ByteArray) (h : bs = xs ++ strBits s s.size ++ ys) : ∀ n, n ≤ s.size → rdB (pkB bs) xs.length n = (s.data.toList.take n).map fun b => (b.toNat : Int)
  | 0, _ => rfl
  | n + 1, hn => by
    have hsp : ∀ k i, i ≤ k → ∃ zs, strBits s k = strBits s i ++ zs := fun k => by
      induction k with
      | zero => intro i hi; obtain rfl : i = 0 := by omega
                exact ⟨[], rfl⟩
      | succ k ih =>
        intro i hi
        rcases Nat.lt_or_ge k i with h | h
        · obtain rfl : i = k + 1 := by omega
          exact ⟨[], by simp⟩
        · obtain ⟨zs, hz⟩ := ih i h
          exact ⟨zs ++ bitsOf 8 (byteAt s k).toNat, by rw [strBits, hz, List.append_assoc]⟩
    obtain ⟨zs, hz⟩ := hsp s.size (n + 1) hn
    rw [rdB, rdB_back bs xs ys hb s h n (by omega)]
    have hxl : (xs ++ strBits s n).length = xs.length + 8 * n := by rw [List.length_append, strBits_len]
    have := rdN_bits bs hb (xs ++ strBits s n) (zs ++ ys) 8 (byteAt s n).toNat (by rw [h, hz, strBits]; simp [List.append_assoc])
    rw [hxl] at this
    have hlt := (byteAt s n).toNat_lt
    rw [this, Int.emod_eq_of_lt (by omega) (by omega)]
    have hsl : s.data.toList.length = s.size := by rw [Array.length_toList]; rfl
    rw [List.take_add_one, List.map_append, List.getElem?_eq_getElem (by omega)]
    congr 1
    have e : byteAt s n = s.data.toList[n] := by unfold byteAt; rw [List.getD_eq_getElem?_getD, List.getElem?_eq_getElem (by omega)]; rfl
    rw [e]
    rfl
theorem pow_wdth (m : Int) (h : 1 ≤ m ∧ m ≤ 4095) (x : Int) (hx : 0 ≤ x ∧ x ≤ m) : x < 2 ^ (wdth m).toNat := by
  have h1 : wdth m = max 1 (bl m.toNat) := by unfold wdth; rw [if_neg (by omega)]
  have h2 := bl_pos m h.1
  have h3 := (bl_lt m (bl m.toNat) (by omega) (by omega)).1 (Int.le_refl _)
  rw [h1, show max 1 (bl m.toNat) = bl m.toNat by omega]
  omega
theorem txtR_back (bs xs ys : List Int) (hb : B01 bs) (m : Int) (s : ByteArray) (hm : 1 ≤ m ∧ m ≤ 4095) (hs : (s.size : Int) ≤ m) (h : bs = xs ++ bitsOf (wdth m).toNat s.size ++ strBits s s.size ++ ys) :
    txtR (pkB bs) xs.length 0 m = (s, xs.length + (wdth m).toNat + 8 * s.size, 0) := by
  have hw := wdth_bd m (by omega)
  have hl := congrArg List.length h
  rw [List.length_append, List.length_append, List.length_append, bitsOf_len, strBits_len] at hl
  have hsz := pkB_size bs
  have hf := fieldR_back bs xs (strBits s s.size ++ ys) hb (wdth m).toNat s.size (by rw [h]; simp [List.append_assoc]) ⟨by omega, pow_wdth m hm _ ⟨by omega, hs⟩⟩
  rw [show (((wdth m).toNat : Nat) : Int) = wdth m by omega] at hf
  have hd : decide (1 ≤ m ∧ m ≤ 4095) = true := decide_eq_true hm
  unfold txtR
  rw [hd, hf]
  dsimp only
  rw [if_neg (by simp), if_neg (by omega), if_neg (by omega)]
  have hxl : (xs ++ bitsOf (wdth m).toNat s.size).length = xs.length + (wdth m).toNat := by rw [List.length_append, bitsOf_len]
  have hB := rdB_back bs (xs ++ bitsOf (wdth m).toNat s.size) ys hb s h s.size (Nat.le_refl _)
  rw [hxl] at hB
  rw [show ((s.size : Nat) : Int).toNat = s.size from rfl, hB]
  have hsl : s.data.toList.length = s.size := by rw [Array.length_toList]; rfl
  rw [List.take_of_length_le (by omega), List.map_map]
  have e : s.data.toList.map (b8 ∘ fun b => (b.toNat : Int)) = s.data.toList := by
    conv => rhs; rw [← List.map_id s.data.toList]
    apply List.map_congr_left
    intro b _
    have hlt := b.toNat_lt
    apply UInt8.toNat_inj.1
    have := b8_toNat (z := (b.toNat : Int)) (by omega)
    show (b8 (b.toNat : Int)).toNat = (id b).toNat
    have : ((b8 (b.toNat : Int)).toNat : Int) = (b.toNat : Int) := this
    show _ = b.toNat
    omega
  rw [e]
theorem strBits_rd (d : ByteArray) (a : Nat) (s : ByteArray) (hs : ∀ i, i < s.size → ((byteAt s i).toNat : Int) = rdN d (a + 8 * i) 8) : ∀ n, n ≤ s.size → strBits s n = dbits d a (8 * n)
  | 0, _ => rfl
  | n + 1, h => by
    rw [strBits, strBits_rd d a s hs n (by omega), hs n (by omega), bits_rd, show 8 * (n + 1) = 8 * n + 8 by omega, dbits_app]
theorem rdB_get (d : ByteArray) (a : Nat) : ∀ n i, i < n → (rdB d a n).getD i 0 = rdN d (a + 8 * i) 8
  | 0, i, h => by omega
  | n + 1, i, h => by
    have hl := rdB_len d a n
    rw [rdB, List.getD_eq_getElem?_getD]
    rcases Nat.lt_or_ge i n with hi | hi
    · rw [List.getElem?_append_left (by omega), ← List.getD_eq_getElem?_getD]
      exact rdB_get d a n i hi
    · obtain rfl : i = n := by omega
      rw [List.getElem?_append_right (by omega), hl, Nat.sub_self]
      rfl
theorem txt_bits {d : ByteArray} {a a' : Nat} {e m : Int} {t : ByteArray} (h : txtR d a e m = (t, a', 0)) (ha : a ≤ 8 * d.size) (hm : 1 ≤ m ∧ m ≤ 4095) : e = 0 ∧ a' = a + (wdth m).toNat + 8 * t.size ∧ a' ≤ 8 * d.size ∧ (t.size : Int) ≤ m ∧ dbits d 0 a' = dbits d 0 a ++ (bitsOf (wdth m).toNat t.size ++ strBits t t.size) := by
  obtain ⟨v, a1, e1, hf⟩ : ∃ v a1 e1, fieldR d a e (decide (1 ≤ m ∧ m ≤ 4095)) (wdth m) = (v, a1, e1) := ⟨_, _, _, rfl⟩
  have hbd := fieldR_bd hf (by intro h; have := of_decide_eq_true h; exact wdth_bd m (by omega))
  have hcs := fieldR_cases hf
  have hwd := wdth_bd m (by omega)
  unfold txtR at h
  rw [hf] at h
  dsimp only at h
  by_cases he : e1 = 0
  · rw [if_neg (by simpa using he)] at h
    obtain ⟨_, he0, hr, c4, hv, h6⟩ : e1 = 0 ∧ e = 0 ∧ decide (1 ≤ m ∧ m ≤ 4095) = true ∧ a1 = a + (wdth m).toNat ∧ v = rdN d a (wdth m).toNat ∧ wdth m ≤ 8 * d.size - a := by
      rcases hcs with h | h
      · exact absurd he h.1
      · exact h
    split at h
    · simp at h
    · rename_i hmv
      split at h
      · simp at h
      · rename_i hlv
        simp only [Prod.mk.injEq] at h
        obtain ⟨ht, rfl, _⟩ := h
        have hsz : t.size = v.toNat := by rw [← ht]; show ((rdB d a1 v.toNat).map b8).toArray.size = _; simp [rdB_len]
        have hby : ∀ i, i < t.size → ((byteAt t i).toNat : Int) = rdN d (a1 + 8 * i) 8 := fun i hi => by
          rw [← ht, byteAt_map _ (rdB_rng d a1 v.toNat)]
          exact rdB_get d a1 _ i (by omega)
        have hs2 := strBits_rd d a1 t hby t.size (Nat.le_refl _)
        refine ⟨he0, by omega, by omega, by omega, ?_⟩
        rw [hs2, hsz, show ((v.toNat : Nat) : Int) = v by omega, dbits_app, Nat.zero_add, c4, dbits_app, Nat.zero_add, hv, bits_rd, List.append_assoc]
  · rw [if_pos he] at h
    simp only [Prod.mk.injEq] at h
    exact absurd h.2.2 he
theorem cdR_le {d : ByteArray} {a a' : Nat} {e e' : Int} {k : Nat} {L : List Int} (h : cdR d a e k = (L, a', e')) (ha : a ≤ 8 * d.size) : a' ≤ 8 * d.size := by
  induction k generalizing L a' e' with
  | zero => simp only [cdR, Prod.mk.injEq] at h; omega
  | succ k ih =>
    obtain ⟨L0, a0, e0, h0⟩ : ∃ x y z, cdR d a e k = (x, y, z) := ⟨_, _, _, rfl⟩
    obtain ⟨v1, a1, e1, h1⟩ : ∃ x y z, unsR d a0 e0 8 = (x, y, z) := ⟨_, _, _, rfl⟩
    rw [cdR_succ h0 h1] at h
    simp only [Prod.mk.injEq] at h
    obtain ⟨_, rfl, _⟩ := h
    exact unsR_le h1 (ih h0) (by decide)
theorem cdR_of {d : ByteArray} {bs xs ys : List Int} {cd : ByteArray} (hd : dbits d 0 bs.length = bs) (hl : bs.length ≤ 8 * d.size) (N : Nat) (h : bs = xs ++ strBits cd N ++ ys) : ∀ i, i ≤ N → cdR d xs.length 0 i = ((List.range i).map fun k => ((byteAt cd k).toNat : Int), xs.length + 8 * i, 0)
  | 0, _ => rfl
  | i + 1, hi => by
    have ih := cdR_of hd hl N h i (by omega)
    have hr := UInt8.toNat_lt (byteAt cd i)
    have hsp : ∀ n, i + 1 ≤ n → ∃ zs, strBits cd n = strBits cd i ++ bitsOf 8 ((byteAt cd i).toNat : Int) ++ zs := by
      intro n
      induction n with
      | zero => intro h; omega
      | succ n ih2 =>
        intro hn
        by_cases e : n = i
        · subst e
          exact ⟨[], by rw [List.append_nil]; rfl⟩
        · obtain ⟨zs, hz⟩ := ih2 (by omega)
          exact ⟨zs ++ bitsOf 8 ((byteAt cd n).toNat : Int), by show strBits cd n ++ _ = _; rw [hz, List.append_assoc]⟩
    obtain ⟨zs, hz⟩ := hsp N hi
    have e1 : bs = (xs ++ strBits cd i) ++ bitsOf 8 ((byteAt cd i).toNat : Int) ++ (zs ++ ys) := by rw [h, hz]; simp only [List.append_assoc]
    have hlen : (xs ++ strBits cd i).length = xs.length + 8 * i := by rw [List.length_append, strBits_len]
    have h1 := uns_of (w := 8) (a := xs.length + 8 * i) (a' := xs.length + 8 * (i + 1)) hd hl e1 (by decide) (by rw [show (2 : Int) ^ 8 = 256 from rfl]; omega) hlen.symm (by omega)
    have := cdR_succ ih h1
    rw [this, List.range_succ, List.map_append]
    rfl
theorem cd_id {cd : ByteArray} (h : cd.size = 8) : (⟨(((List.range 8).map fun k => ((byteAt cd k).toNat : Int)).map b8).toArray⟩ : ByteArray) = cd := by
  have hs : cd.data.size = 8 := h
  have : (((List.range 8).map fun k => ((byteAt cd k).toNat : Int)).map b8) = cd.data.toList := by
    apply List.ext_getElem
    · simp [hs]
    · intro i h1 h2
      have hi : i < 8 := by simpa using h1
      have h3 := byteAt_lt cd i (by omega)
      have h4 := UInt8.toNat_lt (byteAt cd i)
      simp only [List.getElem_map, List.getElem_range]
      rw [h3]
      have e : b8 ((cd[i].toNat : Nat) : Int) = cd[i] := by
        rw [h3] at h4
        unfold b8
        rw [show IntKind.u8.wrap ((cd[i].toNat : Nat) : Int) = (cd[i].toNat : Int) from wrap_id (by simp [IntKind.min, IntKind.signed]) (by simp [IntKind.max, IntKind.signed, IntKind.bits]; omega)]
        simp
      rw [e]
      rfl
  rw [this]
theorem cdR_bits {d : ByteArray} : ∀ (k : Nat) {a a' : Nat} {e : Int} {L : List Int}, cdR d a e k = (L, a', 0) → a ≤ 8 * d.size → e = 0 ∧ a' ≤ 8 * d.size ∧ dbits d 0 a' = dbits d 0 a ++ L.flatMap (bitsOf 8)
  | 0, a, a', e, L, h, ha => by
    simp only [cdR, Prod.mk.injEq] at h
    obtain ⟨rfl, rfl, rfl⟩ := h
    exact ⟨rfl, ha, by simp⟩
  | k + 1, a, a', e, L, h, ha => by
    obtain ⟨L0, a0, e0, h0⟩ : ∃ x y z, cdR d a e k = (x, y, z) := ⟨_, _, _, rfl⟩
    obtain ⟨v1, a1, e1, h1⟩ : ∃ x y z, unsR d a0 e0 8 = (x, y, z) := ⟨_, _, _, rfl⟩
    rw [cdR_succ h0 h1] at h
    simp only [Prod.mk.injEq] at h
    obtain ⟨rfl, rfl, rfl⟩ := h
    have l0 := cdR_le h0 ha
    obtain ⟨rfl, p1, p2, p3⟩ := uns_bits h1 l0 (by decide)
    obtain ⟨hz, o2, o3⟩ := cdR_bits k h0 ha
    refine ⟨hz, p2, ?_⟩
    rw [p3, o3]
    simp only [List.flatMap_append, List.append_assoc, List.flatMap_cons, List.flatMap_nil, List.append_nil]
    rfl
theorem cd_str {L : List Int} (h : ∀ z ∈ L, 0 ≤ z ∧ z < 256) : ∀ k, k ≤ L.length → strBits ⟨(L.map b8).toArray⟩ k = (L.take k).flatMap (bitsOf 8)
  | 0, _ => by simp [strBits]
  | k + 1, hk => by
    obtain ⟨z, hz⟩ : ∃ z, L[k]? = some z := ⟨_, List.getElem?_eq_getElem (by omega)⟩
    have hr := h z (List.mem_of_getElem? hz)
    have e : ((byteAt ⟨(L.map b8).toArray⟩ k).toNat : Int) = z := by
      rw [byteAt_map _ (fun q hq => by have := h q hq; omega)]
      rw [List.getD_eq_getElem?_getD, hz]
      rfl
    show strBits _ k ++ bitsOf 8 _ = _
    rw [cd_str h k (by omega), e, List.take_add_one, hz, List.flatMap_append]
    simp
theorem jo_len (nm cd : ByteArray) (no : Int) (an : Bool) (nd : Int) (h1 : nm.size ≤ 32) : (pkB (joB nm no an nd cd)).size ≤ 100 := by
  rw [pkB_size]
  have b4 := strBits_len nm nm.size
  have b5 := strBits_len cd 8
  have e : (if an = true then bitsOf 5 nd else []).length ≤ 5 := by
    cases an
    · exact Nat.zero_le _
    · exact Nat.le_of_eq (bitsOf_len _ _)
  have : (joB nm no an nd cd).length ≤ 400 := by
    unfold joB
    simp only [List.length_append, bitsOf_len]
    omega
  omega
theorem wd32n : (wdth 32).toNat = 6 := by rw [wd32]; rfl
/-- A request that is written is read. -/
theorem jo_readA (nm cd : ByteArray) (no : Int) (h1 : nm.size ≤ 32) (h2 : 0 ≤ no ∧ no ≤ 2147483647) (h4 : cd.size = 8) : ACalls Tryz.prog 91 [.string (pkB (joB nm no false 0 cd))] [] (.tuple #[.agg #[.string nm, .int .i64 no, .int .i64 (-1), .string cd], .bool true]) [] := by
  have h01 : B01 (joB nm no false 0 cd) := joB_01 nm no false 0 cd
  have hd := dbits_pk _ (joB_01 nm no false 0 cd)
  have hl := pk_le (joB nm no false 0 cd)
  have hcl := close_pk _ (joB_01 nm no false 0 cd)
  have hsz := jo_len nm cd no false 0 h1
  have hbs : joB nm no false 0 cd = bitsOf 1 0 ++ (bitsOf 6 nm.size ++ (strBits nm nm.size ++ (bitsOf 31 no ++ strBits cd 8))) := by
    unfold joB
    rw [if_neg (show ¬ (false = true) by decide), if_neg (show ¬ (false = true) by decide)]
    simp only [List.append_assoc, List.append_nil, List.nil_append]
  have htx := txtR_back (joB nm no false 0 cd) (bitsOf 1 0) (bitsOf 31 no ++ strBits cd 8) h01 32 nm (by decide) (by omega) (by rw [hbs, wd32n]; simp only [List.append_assoc])
  generalize joB nm no false 0 cd = bs at *
  generalize pkB bs = d at *
  have b1 : (bitsOf 1 0).length = 1 := bitsOf_len _ _
  have b2 : (bitsOf 6 (nm.size : Int)).length = 6 := bitsOf_len _ _
  have b3 := strBits_len nm nm.size
  have b4 : (bitsOf 31 no).length = 31 := bitsOf_len _ _
  have b5 := strBits_len cd 8
  have g1 : flgR d 0 0 = (false, 1, 0) := flg_of (xs := []) hd hl (by rw [hbs]; rfl) rfl rfl
  have g2 : txtR d 1 0 32 = (nm, 7 + 8 * nm.size, 0) := by
    rw [b1, wd32n] at htx
    exact htx
  have g3 : unsR d (7 + 8 * nm.size) 0 31 = (no, 38 + 8 * nm.size, 0) := uns_of (w := 31) (xs := bitsOf 1 0 ++ bitsOf 6 nm.size ++ strBits nm nm.size) hd hl (by rw [hbs]; simp only [List.append_assoc]; first | done | rfl) (by decide) (by rw [show (2 : Int) ^ 31 = 2147483648 from rfl]; omega) (by simp only [List.length_append]; omega) (by omega)
  have g4 := cdR_of (cd := cd) (xs := bitsOf 1 0 ++ bitsOf 6 nm.size ++ strBits nm nm.size ++ bitsOf 31 no) (ys := []) hd hl 8 (by rw [hbs]; simp only [List.append_assoc, List.append_nil]) 8 (Nat.le_refl _)
  have hxl : (bitsOf 1 0 ++ bitsOf 6 nm.size ++ strBits nm nm.size ++ bitsOf 31 no).length = 38 + 8 * nm.size := by simp only [List.length_append]; omega
  rw [hxl] at g4
  have hbl : bs.length = 38 + 8 * nm.size + 8 * 8 := by
    rw [hbs]
    simp only [List.length_append]
    omega
  rw [hbl] at hcl
  have h := ac_jdecA d (by omega) _ _ _ _ _ _ _ _ _ _ _ _ g1 g2 g3 g4 hcl
  rw [cd_id h4, decide_eq_true rfl] at h
  exact h
/-- An answer that is written is read. -/
theorem jo_readB (nm cd : ByteArray) (no nd : Int) (h1 : nm.size ≤ 32) (h2 : 0 ≤ no ∧ no ≤ 2147483647) (h3 : 0 ≤ nd ∧ nd ≤ 31) (h4 : cd.size = 8) : ACalls Tryz.prog 91 [.string (pkB (joB nm no true nd cd))] [] (.tuple #[.agg #[.string nm, .int .i64 no, .int .i64 nd, .string cd], .bool true]) [] := by
  have h01 : B01 (joB nm no true nd cd) := joB_01 nm no true nd cd
  have hd := dbits_pk _ (joB_01 nm no true nd cd)
  have hl := pk_le (joB nm no true nd cd)
  have hcl := close_pk _ (joB_01 nm no true nd cd)
  have hsz := jo_len nm cd no true nd h1
  have hbs : joB nm no true nd cd = bitsOf 1 1 ++ (bitsOf 6 nm.size ++ (strBits nm nm.size ++ (bitsOf 31 no ++ (bitsOf 5 nd ++ strBits cd 8)))) := by
    unfold joB
    rw [if_pos (show true = true from rfl), if_pos (show true = true from rfl)]
    simp only [List.append_assoc]
  have htx := txtR_back (joB nm no true nd cd) (bitsOf 1 1) (bitsOf 31 no ++ (bitsOf 5 nd ++ strBits cd 8)) h01 32 nm (by decide) (by omega) (by rw [hbs, wd32n]; simp only [List.append_assoc])
  generalize joB nm no true nd cd = bs at *
  generalize pkB bs = d at *
  have b1 : (bitsOf 1 1).length = 1 := bitsOf_len _ _
  have b2 : (bitsOf 6 (nm.size : Int)).length = 6 := bitsOf_len _ _
  have b3 := strBits_len nm nm.size
  have b4 : (bitsOf 31 no).length = 31 := bitsOf_len _ _
  have b6 : (bitsOf 5 nd).length = 5 := bitsOf_len _ _
  have b5 := strBits_len cd 8
  have g1 : flgR d 0 0 = (true, 1, 0) := flg_of (xs := []) hd hl (by rw [hbs]; rfl) rfl rfl
  have g2 : txtR d 1 0 32 = (nm, 7 + 8 * nm.size, 0) := by
    rw [b1, wd32n] at htx
    exact htx
  have g3 : unsR d (7 + 8 * nm.size) 0 31 = (no, 38 + 8 * nm.size, 0) := uns_of (w := 31) (xs := bitsOf 1 1 ++ bitsOf 6 nm.size ++ strBits nm nm.size) hd hl (by rw [hbs]; simp only [List.append_assoc]; first | done | rfl) (by decide) (by rw [show (2 : Int) ^ 31 = 2147483648 from rfl]; omega) (by simp only [List.length_append]; omega) (by omega)
  have g5 : unsR d (38 + 8 * nm.size) 0 5 = (nd, 43 + 8 * nm.size, 0) := uns_of (w := 5) (xs := bitsOf 1 1 ++ bitsOf 6 nm.size ++ strBits nm nm.size ++ bitsOf 31 no) hd hl (by rw [hbs]; simp only [List.append_assoc]; first | done | rfl) (by decide) (by rw [show (2 : Int) ^ 5 = 32 from rfl]; omega) (by simp only [List.length_append]; omega) (by omega)
  have g4 := cdR_of (cd := cd) (xs := bitsOf 1 1 ++ bitsOf 6 nm.size ++ strBits nm nm.size ++ bitsOf 31 no ++ bitsOf 5 nd) (ys := []) hd hl 8 (by rw [hbs]; simp only [List.append_assoc, List.append_nil]) 8 (Nat.le_refl _)
  have hxl : (bitsOf 1 1 ++ bitsOf 6 nm.size ++ strBits nm nm.size ++ bitsOf 31 no ++ bitsOf 5 nd).length = 43 + 8 * nm.size := by simp only [List.length_append]; omega
  rw [hxl] at g4
  have hbl : bs.length = 43 + 8 * nm.size + 8 * 8 := by
    rw [hbs]
    simp only [List.length_append]
    omega
  rw [hbl] at hcl
  have h := ac_jdecB d (by omega) _ _ _ _ _ _ _ _ _ _ _ _ _ _ _ g1 g2 g3 g5 g4 hcl
  rw [cd_id h4, decide_eq_true rfl] at h
  exact h
/-- What is read is what is written. -/
theorem jo_back (d : ByteArray) (hd : d.size ≤ 1000) : ∃ (F ok : Bool) (nm cd : ByteArray) (no nd : Int), (F = false → nd = -1) ∧ (F = true → 0 ≤ nd) ∧ (ok = true → pkB (joB nm no F nd cd) = d) ∧ ACalls Tryz.prog 91 [.string d] [] (.tuple #[.agg #[.string nm, .int .i64 no, .int .i64 nd, .string cd], .bool ok]) [] := by
  obtain ⟨F, a1, e1, h1⟩ : ∃ F a1 e1, flgR d 0 0 = (F, a1, e1) := ⟨_, _, _, rfl⟩
  obtain ⟨t, a2, e2, h2⟩ : ∃ t a2 e2, txtR d a1 e1 32 = (t, a2, e2) := ⟨_, _, _, rfl⟩
  obtain ⟨no, a3, e3, h3⟩ : ∃ no a3 e3, unsR d a2 e2 31 = (no, a3, e3) := ⟨_, _, _, rfl⟩
  have l1 := flgR_le h1 (Nat.zero_le _)
  have l2 := txtR_le h2 l1 (by decide)
  have l3 := unsR_le h3 l2 (by decide)
  have cl0 : ∀ {a : Nat} {e : Int}, closeR d a e = 0 → e = 0 := fun {a e} h => by
    unfold closeR at h
    by_cases he : e = 0
    · exact he
    · rw [if_pos he] at h; exact h
  have clen : ∀ {a a' : Nat} {e e' : Int} {k : Nat} {L : List Int}, cdR d a e k = (L, a', e') → L.length = k := by
    intro a a' e e' k
    induction k generalizing a' e' with
    | zero => intro L h; simp only [cdR, Prod.mk.injEq] at h; rw [← h.1]; rfl
    | succ k ih =>
      intro L h
      obtain ⟨L0, a0, e0, h0⟩ : ∃ x y z, cdR d a e k = (x, y, z) := ⟨_, _, _, rfl⟩
      obtain ⟨v1, a1, e1, h1⟩ : ∃ x y z, unsR d a0 e0 8 = (x, y, z) := ⟨_, _, _, rfl⟩
      rw [cdR_succ h0 h1] at h
      simp only [Prod.mk.injEq] at h
      rw [← h.1, List.length_append, ih h0]; rfl
  cases F with
  | false =>
    obtain ⟨L, a5, e5, h5⟩ : ∃ L a5 e5, cdR d a3 e3 8 = (L, a5, e5) := ⟨_, _, _, rfl⟩
    refine ⟨false, decide (closeR d a5 e5 = 0), t, ⟨(L.map b8).toArray⟩, no, -1, (fun _ => rfl), (fun h => by cases h), (fun h => ?_), ac_jdecA d hd a1 a2 a3 a5 e1 e2 e3 e5 no _ t L h1 h2 h3 h5 rfl⟩
    have hc := of_decide_eq_true h
    have he := cl0 hc
    subst he
    have hst := cd_str (cdR_rng h5) 8 (by rw [clen h5]; exact Nat.le_refl _)
    have hL8 := clen h5
    obtain ⟨rfl, l5, g5⟩ := cdR_bits 8 h5 l3
    obtain ⟨rfl, _, _, g3⟩ := uns_bits h3 l2 (by decide)
    obtain ⟨rfl, _, _, _, g2⟩ := txt_bits h2 l1 (by decide)
    obtain ⟨_, _, _, g1⟩ := flg_bits h1 (Nat.zero_le _)
    rw [← pk_close l5 hc, g5, g3, g2, g1, wd32n]
    unfold joB
    rw [if_neg (show ¬ (false = true) by decide), hst, List.take_of_length_le (by omega)]
    simp only [List.append_assoc, List.append_nil, List.nil_append]
    rfl
  | true =>
    obtain ⟨nd, a4, e4, h4⟩ : ∃ nd a4 e4, unsR d a3 e3 5 = (nd, a4, e4) := ⟨_, _, _, rfl⟩
    obtain ⟨L, a5, e5, h5⟩ : ∃ L a5 e5, cdR d a4 e4 8 = (L, a5, e5) := ⟨_, _, _, rfl⟩
    have l4 := unsR_le h4 l3 (by decide)
    have hn := unsR_rng h4 (by decide)
    refine ⟨true, decide (closeR d a5 e5 = 0), t, ⟨(L.map b8).toArray⟩, no, nd, (fun h => by cases h), (fun _ => hn.1), (fun h => ?_), ac_jdecB d hd a1 a2 a3 a4 a5 e1 e2 e3 e4 e5 no nd _ t L h1 h2 h3 h4 h5 rfl⟩
    have hc := of_decide_eq_true h
    have he := cl0 hc
    subst he
    have hst := cd_str (cdR_rng h5) 8 (by rw [clen h5]; exact Nat.le_refl _)
    have hL8 := clen h5
    obtain ⟨rfl, l5, g5⟩ := cdR_bits 8 h5 l4
    obtain ⟨rfl, _, _, g4⟩ := uns_bits h4 l3 (by decide)
    obtain ⟨rfl, _, _, g3⟩ := uns_bits h3 l2 (by decide)
    obtain ⟨rfl, _, _, _, g2⟩ := txt_bits h2 l1 (by decide)
    obtain ⟨_, _, _, g1⟩ := flg_bits h1 (Nat.zero_le _)
    rw [← pk_close l5 hc, g5, g4, g3, g2, g1, wd32n]
    unfold joB
    rw [if_pos (show true = true from rfl), if_pos (show true = true from rfl), hst, List.take_of_length_le (by omega)]
    simp only [List.append_assoc, List.append_nil, List.nil_append]
    rfl
/-- What follows, of two pieces of code; the first ones first. -/
def seqsOf : Code → List Code
  | .seq a b => b :: (seqsOf a ++ seqsOf b)
  | .cond _ a b => seqsOf a ++ seqsOf b
  | .block _ c => seqsOf c
  | .loop c => seqsOf c
  | _ => []
def seqAt (f : Func) (k : Nat) : Code := match f.body with
  | some c => (seqsOf c).getD k .skip
  | none => .skip
set_option maxHeartbeats 16000000 in
theorem jb4 (nm cd : ByteArray) (no : Int) (nm2 cd2 : ByteArray) (no2 nd2 : Int) (d : ByteArray) (hd : d.size ≤ 1000) : AW Tryz.prog Tryz.f10.ntmps 0 (seqAt Tryz.f10 21) (PostP Tryz.prog Tryz.f10.results.toList (.bool true)) ([(2, .string d), (3, .pointer (some ⟨0, 0, none⟩)), (4, .pointer (some ⟨1, 0, none⟩))]) ([some ⟨[.string nm, .int .i64 no, .string cd], true, 1⟩, some ⟨[.string nm2, .int .i64 no2, .int .i64 nd2, .string cd2], true, 1⟩]) := by
  obtain ⟨F, ok, n3, c3, o3, d3, hF0, hF1, hb, H⟩ := jo_back d hd
  have HK := ac_ansF n3 o3 d3 c3 _ rfl
  cases hr : (ok && anB n3 o3 d3 c3) with
  | false =>
    have H1 := ac_jDB0 d n3 c3 o3 d3 ok _ H HK hr
    clear hb HK H
    repeat' first | intro h1 | intro h1 | refine st (h := ok_not_dec2 rfl) ?_ | refine st (h := ok_str_neqE rfl rfl (decide_eq_true rfl)) ?_ | refine sd (h := ok_str_neqE rfl rfl (decide_eq_true rfl)) ?_ | refine st ?_ | refine st_call (H1) ?_ | refine st_call (H2) ?_ | refine sd_call (H1) ?_ | refine sd_call (H2) ?_ | refine stm ?_ | refine Ja ?_ | refine Jb ?_ | refine Jc ?_ | refine Jd ?_ | refine Je ?_ | refine Jf ?_ | refine Jg ?_ | refine Jh ?_ ?_ | refine Ji ?_ ?_ | refine Jj ?_ ?_ | refine run_nil ?_ | refine Jz ?_ | refine Jw ?_ | refine aw_block ?_ | refine Jq ?_ | refine Jr ?_ | refine Js ?_ | refine Jt ?_ | refine Ju ?_ ?_ | refine Jv ?_ ?_ | refine Jy ?_ | refine aw_exit ?_ | refine aw_ret ?_ | refine pp_ret ?_ | refine pp_normal ?_
    all_goals first
      | rfl
      | (exfalso; omega)
      | (exfalso; apply h1; simp; done)
      | (exfalso; first | (simp_all; done) | (simp_all; omega))
  | true =>
    obtain ⟨k1, k2⟩ := and_t hr
    have H1 := ac_jDB1 d n3 c3 o3 d3 ok _ H HK hr
    have H2 := ac_jEB1 n3 c3 o3 d3 k2
    have h5 := (anB_t k2).2
    have hF : F = true := by
      cases F with
      | true => rfl
      | false => have := hF0 rfl; omega
    subst hF
    rw [hb k1] at H2
    clear hb HK H hr
    repeat' first | intro h1 | intro h1 | refine st (h := ok_not_dec2 rfl) ?_ | refine st (h := ok_str_neqE rfl rfl (decide_eq_true rfl)) ?_ | refine sd (h := ok_str_neqE rfl rfl (decide_eq_true rfl)) ?_ | refine st ?_ | refine st_call (H1) ?_ | refine st_call (H2) ?_ | refine sd_call (H1) ?_ | refine sd_call (H2) ?_ | refine stm ?_ | refine Ja ?_ | refine Jb ?_ | refine Jc ?_ | refine Jd ?_ | refine Je ?_ | refine Jf ?_ | refine Jg ?_ | refine Jh ?_ ?_ | refine Ji ?_ ?_ | refine Jj ?_ ?_ | refine run_nil ?_ | refine Jz ?_ | refine Jw ?_ | refine aw_block ?_ | refine Jq ?_ | refine Jr ?_ | refine Js ?_ | refine Jt ?_ | refine Ju ?_ ?_ | refine Jv ?_ ?_ | refine Jy ?_ | refine aw_exit ?_ | refine aw_ret ?_ | refine pp_ret ?_ | refine pp_normal ?_
    all_goals first
      | rfl
      | (exfalso; omega)
      | (exfalso; apply h1; simp; done)
      | (exfalso; first | (simp_all; done) | (simp_all; omega))
set_option maxHeartbeats 16000000 in
theorem jb3 (nm cd : ByteArray) (no : Int) (nm2 cd2 : ByteArray) (no2 nd2 : Int) (d : ByteArray) (hd : d.size ≤ 1000) : AW Tryz.prog Tryz.f10.ntmps 0 (seqAt Tryz.f10 14) (PostP Tryz.prog Tryz.f10.results.toList (.bool true)) ([(2, .string d), (3, .pointer (some ⟨0, 0, none⟩)), (4, .pointer (some ⟨1, 0, none⟩))]) ([some ⟨[.string nm, .int .i64 no, .string cd], true, 1⟩, some ⟨[.string nm2, .int .i64 no2, .int .i64 nd2, .string cd2], true, 1⟩]) := by
  have HN := jb4 nm cd no nm2 cd2 no2 nd2 d hd
  obtain ⟨F, ok, n3, c3, o3, d3, hF0, hF1, hb, H⟩ := jo_back d hd
  have HK := ac_asks n3 o3 c3 _ rfl
  cases hr : (ok && (decide (d3 = -1) && akB n3 o3 c3)) with
  | false =>
    have H1 := ac_jDA0 d n3 c3 o3 d3 ok _ H HK hr
    clear hb HK H
    repeat' first | intro h1 | intro h1 | refine st (h := ok_not_dec2 rfl) ?_ | exact aw_fits (fitsD [0, 1]) HN | refine st (h := ok_str_neqE rfl rfl (decide_eq_true rfl)) ?_ | refine sd (h := ok_str_neqE rfl rfl (decide_eq_true rfl)) ?_ | refine st ?_ | refine st_call (H1) ?_ | refine st_call (H2) ?_ | refine sd_call (H1) ?_ | refine sd_call (H2) ?_ | refine stm ?_ | refine Ja ?_ | refine Jb ?_ | refine Jc ?_ | refine Jd ?_ | refine Je ?_ | refine Jf ?_ | refine Jg ?_ | refine Jh ?_ ?_ | refine Ji ?_ ?_ | refine Jj ?_ ?_ | refine run_nil ?_ | refine Jz ?_ | refine Jw ?_ | refine aw_block ?_ | refine Jq ?_ | refine Jr ?_ | refine Js ?_ | refine Jt ?_ | refine Ju ?_ ?_ | refine Jv ?_ ?_ | refine Jy ?_ | refine aw_exit ?_ | refine aw_ret ?_ | refine pp_ret ?_ | refine pp_normal ?_
    all_goals first
      | rfl
      | (exfalso; omega)
      | (exfalso; apply h1; simp; done)
      | (exfalso; first | (simp_all; done) | (simp_all; omega))
  | true =>
    obtain ⟨k1, k2⟩ := and_t hr
    obtain ⟨k3, k4⟩ := and_t k2
    have k3 := of_decide_eq_true k3
    have H1 := ac_jDA1 d n3 c3 o3 d3 ok _ H HK hr
    have H2 := ac_jEA1 n3 c3 o3 k4
    have hF : F = false := by
      cases F with
      | false => rfl
      | true => have := hF1 rfl; omega
    subst hF
    have e : joB n3 o3 false d3 c3 = joB n3 o3 false 0 c3 := rfl
    rw [← e, hb k1] at H2
    clear hb HK H hr
    repeat' first | intro h1 | intro h1 | refine st (h := ok_not_dec2 rfl) ?_ | exact aw_fits (fitsD [0, 1]) HN | refine st (h := ok_str_neqE rfl rfl (decide_eq_true rfl)) ?_ | refine sd (h := ok_str_neqE rfl rfl (decide_eq_true rfl)) ?_ | refine st ?_ | refine st_call (H1) ?_ | refine st_call (H2) ?_ | refine sd_call (H1) ?_ | refine sd_call (H2) ?_ | refine stm ?_ | refine Ja ?_ | refine Jb ?_ | refine Jc ?_ | refine Jd ?_ | refine Je ?_ | refine Jf ?_ | refine Jg ?_ | refine Jh ?_ ?_ | refine Ji ?_ ?_ | refine Jj ?_ ?_ | refine run_nil ?_ | refine Jz ?_ | refine Jw ?_ | refine aw_block ?_ | refine Jq ?_ | refine Jr ?_ | refine Js ?_ | refine Jt ?_ | refine Ju ?_ ?_ | refine Jv ?_ ?_ | refine Jy ?_ | refine aw_exit ?_ | refine aw_ret ?_ | refine pp_ret ?_ | refine pp_normal ?_
    all_goals first
      | rfl
      | (exfalso; omega)
      | (exfalso; apply h1; simp; done)
      | (exfalso; first | (simp_all; done) | (simp_all; omega))
set_option maxHeartbeats 16000000 in
theorem jb2 (nm cd : ByteArray) (no : Int) (nm2 cd2 : ByteArray) (no2 nd2 : Int) (d : ByteArray) (hd : d.size ≤ 1000) : AW Tryz.prog Tryz.f10.ntmps 0 (seqAt Tryz.f10 7) (PostP Tryz.prog Tryz.f10.results.toList (.bool true)) ([(2, .string d), (3, .pointer (some ⟨0, 0, none⟩)), (4, .pointer (some ⟨1, 0, none⟩))]) ([some ⟨[.string nm, .int .i64 no, .string cd], true, 1⟩, some ⟨[.string nm2, .int .i64 no2, .int .i64 nd2, .string cd2], true, 1⟩]) := by
  have HN := jb3 nm cd no nm2 cd2 no2 nd2 d hd
  cases hk : anB nm2 no2 nd2 cd2 with
  | false =>
    have H1 := ac_jEB0 nm2 cd2 no2 nd2 hk
    repeat' first | intro h1 | intro h1 | refine st (h := ok_not_dec2 rfl) ?_ | exact aw_fits (fitsD [0, 1]) HN | refine st (h := ok_str_neqE rfl rfl (decide_eq_true rfl)) ?_ | refine sd (h := ok_str_neqE rfl rfl (decide_eq_true rfl)) ?_ | refine st ?_ | refine st_call (H1) ?_ | refine st_call (H2) ?_ | refine st_call (H3) ?_ | refine sd_call (H1) ?_ | refine sd_call (H2) ?_ | refine sd_call (H3) ?_ | refine stm ?_ | refine Ja ?_ | refine Jb ?_ | refine Jc ?_ | refine Jd ?_ | refine Je ?_ | refine Jf ?_ | refine Jg ?_ | refine Jh ?_ ?_ | refine Ji ?_ ?_ | refine Jj ?_ ?_ | refine run_nil ?_ | refine Jz ?_ | refine Jw ?_ | refine aw_block ?_ | refine Jq ?_ | refine Jr ?_ | refine Js ?_ | refine Jt ?_ | refine Ju ?_ ?_ | refine Jv ?_ ?_ | refine Jy ?_ | refine aw_exit ?_ | refine aw_ret ?_ | refine pp_ret ?_ | refine pp_normal ?_
    all_goals first
      | rfl
      | (exfalso; omega)
      | (exfalso; apply h1; simp; done)
      | (exfalso; first | (simp_all; done) | (simp_all; omega))
  | true =>
    have H1 := ac_jEB1 nm2 cd2 no2 nd2 hk
    obtain ⟨k1, k2⟩ := anB_t hk
    obtain ⟨k3, k4, k5⟩ := akB_t k1
    have k6 := nmB_t k3
    have HR := jo_readB nm2 cd2 no2 nd2 (by omega) (by omega) (by omega) k5
    have H2 := ac_jDB1 _ nm2 cd2 no2 nd2 true _ HR (ac_ansF nm2 no2 nd2 cd2 _ rfl) (by rw [hk]; rfl)
    have H3 := ac_jDA0 _ nm2 cd2 no2 nd2 true _ HR (ac_asks nm2 no2 cd2 _ rfl) (by rw [decide_eq_false (show ¬ nd2 = -1 by omega)]; rfl)
    generalize pkB (joB nm2 no2 true nd2 cd2) = s at H1 H2 H3
    clear HR
    repeat' first | intro h1 | intro h1 | refine st (h := ok_not_dec2 rfl) ?_ | exact aw_fits (fitsD [0, 1]) HN | refine st (h := ok_str_neqE rfl rfl (decide_eq_true rfl)) ?_ | refine sd (h := ok_str_neqE rfl rfl (decide_eq_true rfl)) ?_ | refine st ?_ | refine st_call (H1) ?_ | refine st_call (H2) ?_ | refine st_call (H3) ?_ | refine sd_call (H1) ?_ | refine sd_call (H2) ?_ | refine sd_call (H3) ?_ | refine stm ?_ | refine Ja ?_ | refine Jb ?_ | refine Jc ?_ | refine Jd ?_ | refine Je ?_ | refine Jf ?_ | refine Jg ?_ | refine Jh ?_ ?_ | refine Ji ?_ ?_ | refine Jj ?_ ?_ | refine run_nil ?_ | refine Jz ?_ | refine Jw ?_ | refine aw_block ?_ | refine Jq ?_ | refine Jr ?_ | refine Js ?_ | refine Jt ?_ | refine Ju ?_ ?_ | refine Jv ?_ ?_ | refine Jy ?_ | refine aw_exit ?_ | refine aw_ret ?_ | refine pp_ret ?_ | refine pp_normal ?_
    all_goals first
      | rfl
      | (exfalso; omega)
      | (exfalso; apply h1; simp; done)
      | (exfalso; first | (simp_all; done) | (simp_all; omega))
set_option maxHeartbeats 16000000 in
theorem law_back (nm cd : ByteArray) (no : Int) (nm2 cd2 : ByteArray) (no2 nd2 : Int) (d : ByteArray) : ACalls Tryz.prog 10 [.agg #[.string nm, .int .i64 no, .string cd], .agg #[.string nm2, .int .i64 no2, .int .i64 nd2, .string cd2], .string d] [] (.bool true) [] := by
  have HK := ac_awake
  by_cases h1 : nm.size ≤ 60
  case neg =>
    refine acalls_law Tryz.func10 rfl rfl rfl ?_
    repeat' first | intro h1 | intro h1 | refine st (h := ok_not_dec2 rfl) ?_ | refine st ?_ | refine st_call (HK) ?_ | refine sd_call (HK) ?_ | refine stm ?_ | refine Ja ?_ | refine Jb ?_ | refine Jc ?_ | refine Jd ?_ | refine Je ?_ | refine Jf ?_ | refine Jg ?_ | refine Jh ?_ ?_ | refine Ji ?_ ?_ | refine Jj ?_ ?_ | refine run_nil ?_ | refine Jz ?_ | refine Jw ?_ | refine aw_block ?_ | refine Jq ?_ | refine Jr ?_ | refine Js ?_ | refine Jt ?_ | refine Ju ?_ ?_ | refine Jv ?_ ?_ | refine Jy ?_ | refine aw_exit ?_ | refine aw_ret ?_ | refine pp_ret ?_ | refine pp_normal ?_
    all_goals first
      | rfl
      | (exfalso; omega)
      | (simp [retOf]; done)
      | (exfalso; simp_all; done)
      | (exfalso; simp only [Bool.not_eq_true', Bool.not_eq_false', decide_eq_true_eq, decide_eq_false_iff_not, Bool.not_false, Bool.not_true] at *; omega)
  by_cases h2 : cd.size ≤ 60
  case neg =>
    refine acalls_law Tryz.func10 rfl rfl rfl ?_
    repeat' first | intro h1 | intro h1 | refine st (h := ok_not_dec2 rfl) ?_ | refine st ?_ | refine st_call (HK) ?_ | refine sd_call (HK) ?_ | refine stm ?_ | refine Ja ?_ | refine Jb ?_ | refine Jc ?_ | refine Jd ?_ | refine Je ?_ | refine Jf ?_ | refine Jg ?_ | refine Jh ?_ ?_ | refine Ji ?_ ?_ | refine Jj ?_ ?_ | refine run_nil ?_ | refine Jz ?_ | refine Jw ?_ | refine aw_block ?_ | refine Jq ?_ | refine Jr ?_ | refine Js ?_ | refine Jt ?_ | refine Ju ?_ ?_ | refine Jv ?_ ?_ | refine Jy ?_ | refine aw_exit ?_ | refine aw_ret ?_ | refine pp_ret ?_ | refine pp_normal ?_
    all_goals first
      | rfl
      | (exfalso; omega)
      | (simp [retOf]; done)
      | (exfalso; simp_all; done)
      | (exfalso; simp only [Bool.not_eq_true', Bool.not_eq_false', decide_eq_true_eq, decide_eq_false_iff_not, Bool.not_false, Bool.not_true] at *; omega)
  by_cases h3 : nm2.size ≤ 60
  case neg =>
    refine acalls_law Tryz.func10 rfl rfl rfl ?_
    repeat' first | intro h1 | intro h1 | refine st (h := ok_not_dec2 rfl) ?_ | refine st ?_ | refine st_call (HK) ?_ | refine sd_call (HK) ?_ | refine stm ?_ | refine Ja ?_ | refine Jb ?_ | refine Jc ?_ | refine Jd ?_ | refine Je ?_ | refine Jf ?_ | refine Jg ?_ | refine Jh ?_ ?_ | refine Ji ?_ ?_ | refine Jj ?_ ?_ | refine run_nil ?_ | refine Jz ?_ | refine Jw ?_ | refine aw_block ?_ | refine Jq ?_ | refine Jr ?_ | refine Js ?_ | refine Jt ?_ | refine Ju ?_ ?_ | refine Jv ?_ ?_ | refine Jy ?_ | refine aw_exit ?_ | refine aw_ret ?_ | refine pp_ret ?_ | refine pp_normal ?_
    all_goals first
      | rfl
      | (exfalso; omega)
      | (simp [retOf]; done)
      | (exfalso; simp_all; done)
      | (exfalso; simp only [Bool.not_eq_true', Bool.not_eq_false', decide_eq_true_eq, decide_eq_false_iff_not, Bool.not_false, Bool.not_true] at *; omega)
  by_cases h4 : cd2.size ≤ 60
  case neg =>
    refine acalls_law Tryz.func10 rfl rfl rfl ?_
    repeat' first | intro h1 | intro h1 | refine st (h := ok_not_dec2 rfl) ?_ | refine st ?_ | refine st_call (HK) ?_ | refine sd_call (HK) ?_ | refine stm ?_ | refine Ja ?_ | refine Jb ?_ | refine Jc ?_ | refine Jd ?_ | refine Je ?_ | refine Jf ?_ | refine Jg ?_ | refine Jh ?_ ?_ | refine Ji ?_ ?_ | refine Jj ?_ ?_ | refine run_nil ?_ | refine Jz ?_ | refine Jw ?_ | refine aw_block ?_ | refine Jq ?_ | refine Jr ?_ | refine Js ?_ | refine Jt ?_ | refine Ju ?_ ?_ | refine Jv ?_ ?_ | refine Jy ?_ | refine aw_exit ?_ | refine aw_ret ?_ | refine pp_ret ?_ | refine pp_normal ?_
    all_goals first
      | rfl
      | (exfalso; omega)
      | (simp [retOf]; done)
      | (exfalso; simp_all; done)
      | (exfalso; simp only [Bool.not_eq_true', Bool.not_eq_false', decide_eq_true_eq, decide_eq_false_iff_not, Bool.not_false, Bool.not_true] at *; omega)
  by_cases h5 : d.size ≤ 100
  case neg =>
    refine acalls_law Tryz.func10 rfl rfl rfl ?_
    repeat' first | intro h1 | intro h1 | refine st (h := ok_not_dec2 rfl) ?_ | refine st ?_ | refine st_call (HK) ?_ | refine sd_call (HK) ?_ | refine stm ?_ | refine Ja ?_ | refine Jb ?_ | refine Jc ?_ | refine Jd ?_ | refine Je ?_ | refine Jf ?_ | refine Jg ?_ | refine Jh ?_ ?_ | refine Ji ?_ ?_ | refine Jj ?_ ?_ | refine run_nil ?_ | refine Jz ?_ | refine Jw ?_ | refine aw_block ?_ | refine Jq ?_ | refine Jr ?_ | refine Js ?_ | refine Jt ?_ | refine Ju ?_ ?_ | refine Jv ?_ ?_ | refine Jy ?_ | refine aw_exit ?_ | refine aw_ret ?_ | refine pp_ret ?_ | refine pp_normal ?_
    all_goals first
      | rfl
      | (exfalso; omega)
      | (simp [retOf]; done)
      | (exfalso; simp_all; done)
      | (exfalso; simp only [Bool.not_eq_true', Bool.not_eq_false', decide_eq_true_eq, decide_eq_false_iff_not, Bool.not_false, Bool.not_true] at *; omega)
  have HN := jb2 nm cd no nm2 cd2 no2 nd2 d (by omega)
  cases hk : akB nm no cd with
  | false =>
    have H1 := ac_jEA0 nm cd no hk
    refine acalls_law Tryz.func10 rfl rfl rfl ?_
    repeat' first | intro h1 | intro h1 | refine st (h := ok_not_dec2 rfl) ?_ | exact aw_fits (fitsD [0, 1]) HN | refine st (h := ok_str_neqE rfl rfl (decide_eq_true rfl)) ?_ | refine sd (h := ok_str_neqE rfl rfl (decide_eq_true rfl)) ?_ | refine st ?_ | refine st_call (HK) ?_ | refine st_call (H1) ?_ | refine st_call (H2) ?_ | refine st_call (H3) ?_ | refine sd_call (HK) ?_ | refine sd_call (H1) ?_ | refine sd_call (H2) ?_ | refine sd_call (H3) ?_ | refine stm ?_ | refine Ja ?_ | refine Jb ?_ | refine Jc ?_ | refine Jd ?_ | refine Je ?_ | refine Jf ?_ | refine Jg ?_ | refine Jh ?_ ?_ | refine Ji ?_ ?_ | refine Jj ?_ ?_ | refine run_nil ?_ | refine Jz ?_ | refine Jw ?_ | refine aw_block ?_ | refine Jq ?_ | refine Jr ?_ | refine Js ?_ | refine Jt ?_ | refine Ju ?_ ?_ | refine Jv ?_ ?_ | refine Jy ?_ | refine aw_exit ?_ | refine aw_ret ?_ | refine pp_ret ?_ | refine pp_normal ?_
    all_goals first
      | rfl
      | (exfalso; omega)
      | (exfalso; apply h1; simp; done)
      | (exfalso; first | (simp_all; done) | (simp_all; omega))
  | true =>
    have H1 := ac_jEA1 nm cd no hk
    obtain ⟨k3, k4, k5⟩ := akB_t hk
    have k6 := nmB_t k3
    have HR := jo_readA nm cd no (by omega) (by omega) k5
    have H2 := ac_jDA1 _ nm cd no (-1) true _ HR (ac_asks nm no cd _ rfl) (by rw [hk]; rfl)
    have H3 := ac_jDB0 _ nm cd no (-1) true _ HR (ac_ansF nm no (-1) cd _ rfl) (by unfold anB; rw [decide_eq_false (show ¬ ((1 : Int) ≤ -1 ∧ (-1 : Int) ≤ 31) by omega), Bool.and_false]; rfl)
    generalize pkB (joB nm no false 0 cd) = s at H1 H2 H3
    clear HR
    refine acalls_law Tryz.func10 rfl rfl rfl ?_
    repeat' first | intro h1 | intro h1 | refine st (h := ok_not_dec2 rfl) ?_ | exact aw_fits (fitsD [0, 1]) HN | refine st (h := ok_str_neqE rfl rfl (decide_eq_true rfl)) ?_ | refine sd (h := ok_str_neqE rfl rfl (decide_eq_true rfl)) ?_ | refine st ?_ | refine st_call (HK) ?_ | refine st_call (H1) ?_ | refine st_call (H2) ?_ | refine st_call (H3) ?_ | refine sd_call (HK) ?_ | refine sd_call (H1) ?_ | refine sd_call (H2) ?_ | refine sd_call (H3) ?_ | refine stm ?_ | refine Ja ?_ | refine Jb ?_ | refine Jc ?_ | refine Jd ?_ | refine Je ?_ | refine Jf ?_ | refine Jg ?_ | refine Jh ?_ ?_ | refine Ji ?_ ?_ | refine Jj ?_ ?_ | refine run_nil ?_ | refine Jz ?_ | refine Jw ?_ | refine aw_block ?_ | refine Jq ?_ | refine Jr ?_ | refine Js ?_ | refine Jt ?_ | refine Ju ?_ ?_ | refine Jv ?_ ?_ | refine Jy ?_ | refine aw_exit ?_ | refine aw_ret ?_ | refine pp_ret ?_ | refine pp_normal ?_
    all_goals first
      | rfl
      | (exfalso; omega)
      | (exfalso; apply h1; simp; done)
      | (exfalso; first | (simp_all; done) | (simp_all; omega))
end Go.Proofs.YtdbcbclapipgdaaGreatDoor
