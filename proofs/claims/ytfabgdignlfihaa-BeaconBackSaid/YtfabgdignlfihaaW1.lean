/- Bits: what stands there is read, what is read stood there. -/
import Derived.Test.YtfabgdignlfihaaBD
import Derived.Test.YtfabgdignlfihaaBE
import Derived.Test.YtfabgdignlfihaaW0
set_option linter.unusedVariables false
set_option linter.unusedSimpArgs false
namespace Go.Proofs.Ytfabgdignlfihaa
open Go Av
set_option maxRecDepth 20000
theorem dbits_get (d : ByteArray) (a n j : Nat) (h : j < n) : (dbits d a n).getD j 0 = bitD d (a + j) := by
  rw [List.getD_eq_getElem?_getD, dbits, List.getElem?_map, List.getElem?_range h]; rfl
/-- Numbers whose bits stand there are read. -/
theorem rdN_at {d : ByteArray} {bs xs ys : List Int} {w : Nat} {x : Int} (hd : dbits d 0 bs.length = bs) (h : bs = xs ++ bitsOf w x ++ ys) (hx : 0 ≤ x ∧ x < 2 ^ w) : rdN d xs.length w = x := by
  have hl := congrArg List.length h
  rw [List.length_append, List.length_append, bitsOf_len] at hl
  have := rdN_of d xs.length w x (fun j hj => by
    have e := dbits_get d 0 bs.length (xs.length + j) (by omega)
    rw [Nat.zero_add, hd] at e
    rw [← e, ← bitsOf_get w x j hj, h, List.getD_eq_getElem?_getD, List.getD_eq_getElem?_getD, List.append_assoc, List.getElem?_append_right (by omega), Nat.add_sub_cancel_left, List.getElem?_append_left (by rw [bitsOf_len]; exact hj)]) w (Nat.le_refl _)
  rw [this, Nat.sub_self, Int.emod_eq_of_lt hx.1 hx.2]
  simp
theorem uns_of {d : ByteArray} {bs xs ys : List Int} {w : Nat} {x : Int} {a a' : Nat} (hd : dbits d 0 bs.length = bs) (hl : bs.length ≤ 8 * d.size) (h : bs = xs ++ bitsOf w x ++ ys) (hw : 1 ≤ w ∧ w ≤ 63) (hx : 0 ≤ x ∧ x < 2 ^ w) (ha : a = xs.length) (ha' : a' = a + w) : unsR d a 0 w = (x, a', 0) := by
  have hll := congrArg List.length h
  rw [List.length_append, List.length_append, bitsOf_len] at hll
  subst ha ha'
  unfold unsR fieldR
  rw [if_neg (by simp), decide_eq_true (by omega), if_neg (by simp), if_neg (by omega)]
  rw [show ((w : Int)).toNat = w from rfl, rdN_at hd h hx]
theorem flg_of {d : ByteArray} {bs xs ys : List Int} {r : Bool} {a a' : Nat} (hd : dbits d 0 bs.length = bs) (hl : bs.length ≤ 8 * d.size) (h : bs = xs ++ bitsOf 1 (if r = true then 1 else 0) ++ ys) (ha : a = xs.length) (ha' : a' = a + 1) : flgR d a 0 = (r, a', 0) := by
  have hll := congrArg List.length h
  rw [List.length_append, List.length_append, bitsOf_len] at hll
  subst ha ha'
  unfold flgR fieldR
  rw [if_neg (by simp), if_neg (by simp), if_neg (by omega)]
  rw [show ((1 : Int)).toNat = 1 from rfl, rdN_at hd h (by cases r <;> simp)]
  cases r <;> rfl
/-- What was read without an error stood there. -/
theorem uns_bits {d : ByteArray} {a a' : Nat} {e w v : Int} (h : unsR d a e w = (v, a', 0)) (ha : a ≤ 8 * d.size) (hw : 1 ≤ w ∧ w ≤ 63) : e = 0 ∧ a' = a + w.toNat ∧ a' ≤ 8 * d.size ∧ dbits d 0 a' = dbits d 0 a ++ bitsOf w.toNat v := by
  unfold unsR at h
  rcases fieldR_cases h with ⟨h1, _⟩ | ⟨_, h2, _, h4, h5, h6⟩
  · exact absurd rfl h1
  · refine ⟨h2, h4, by omega, ?_⟩
    rw [h4, dbits_app, Nat.zero_add, h5, bits_rd]
theorem flg_bits {d : ByteArray} {a a' : Nat} {e : Int} {v : Bool} (h : flgR d a e = (v, a', 0)) (ha : a ≤ 8 * d.size) : e = 0 ∧ a' = a + 1 ∧ a' ≤ 8 * d.size ∧ dbits d 0 a' = dbits d 0 a ++ bitsOf 1 (if v = true then 1 else 0) := by
  unfold flgR at h
  obtain ⟨v1, a1, e1, h1⟩ : ∃ v1 a1 e1, fieldR d a e true 1 = (v1, a1, e1) := ⟨_, _, _, rfl⟩
  rw [h1] at h
  simp only [Prod.mk.injEq] at h
  obtain ⟨rfl, rfl, rfl⟩ := h
  rcases fieldR_cases h1 with ⟨h1, _⟩ | ⟨_, h2, _, h4, h5, h6⟩
  · exact absurd rfl h1
  · refine ⟨h2, h4, by omega, ?_⟩
    have hb := rdN_bd d a 1
    rw [h4, show (1 : Int).toNat = 1 from rfl, dbits_app, Nat.zero_add, ← bits_rd]
    congr 2
    rw [h5, show (1 : Int).toNat = 1 from rfl]
    simp only [decide_eq_true_eq]
    rw [show ((if rdN d a 1 = 1 then 1 else 0 : Int)) = rdN d a 1 from by split <;> omega]
    exact (bits_rd d a 1).symm
theorem close_zero {d : ByteArray} {a : Nat} {e : Int} (ha : a ≤ 8 * d.size) : closeR d a e = 0 ↔ e = 0 ∧ 8 * d.size - a < 8 ∧ ∀ j, a ≤ j → j < 8 * d.size → bitD d j = 0 := by
  unfold closeR
  by_cases he : e = 0
  · subst he
    rw [if_neg (by simp)]
    by_cases h : 8 ≤ 8 * d.size - a ∨ rdN d a (8 * d.size - a) ≠ 0
    · rw [if_pos h]
      refine ⟨fun h => (by cases h), fun ⟨_, h1, h2⟩ => ?_⟩
      rcases h with h | h
      · omega
      · refine absurd ?_ h
        have := rdN_of d a (8 * d.size - a) 0 (fun j hj => by rw [h2 _ (by omega) (by omega)]; simp) _ (Nat.le_refl _)
        rw [this]
        simp
    · rw [if_neg h]
      refine ⟨fun _ => ⟨rfl, by omega, fun j h1 h2 => ?_⟩, fun _ => rfl⟩
      have h0 : rdN d a (8 * d.size - a) = 0 := Decidable.byContradiction fun h3 => h (.inr h3)
      have := rdN_get d a (8 * d.size - a) (j - a) (by omega)
      rw [h0, show a + (j - a) = j by omega] at this
      rw [← this]
      simp
  · rw [if_pos he]
    exact ⟨fun h => absurd h he, fun h => absurd h.1 he⟩
theorem dbits_pk (bs : List Int) (hb : ∀ b ∈ bs, b = 0 ∨ b = 1) : dbits (pkB bs) 0 bs.length = bs := by
  apply List.ext_getElem?
  intro j
  rcases Nat.lt_or_ge j bs.length with h | h
  · have e := pkB_bit bs hb j
    rw [if_pos h, List.getD_eq_getElem?_getD, List.getElem?_eq_getElem h] at e
    rw [dbits, List.getElem?_map, List.getElem?_range h, List.getElem?_eq_getElem h]
    simpa using e
  · rw [List.getElem?_eq_none (by rw [dbits_len]; exact h), List.getElem?_eq_none h]
theorem pk_le (bs : List Int) : bs.length ≤ 8 * (pkB bs).size := by rw [pkB_size]; omega
theorem close_pk (bs : List Int) (hb : ∀ b ∈ bs, b = 0 ∨ b = 1) : closeR (pkB bs) bs.length 0 = 0 := by
  rw [close_zero (pk_le bs)]
  refine ⟨rfl, by rw [pkB_size]; omega, fun j h1 _ => ?_⟩
  rw [pkB_bit bs hb, if_neg (by omega)]
theorem pk_close {d : ByteArray} {a : Nat} {e : Int} (ha : a ≤ 8 * d.size) (h : closeR d a e = 0) : pkB (dbits d 0 a) = d := by
  obtain ⟨_, h1, h2⟩ := (close_zero ha).1 h
  exact pkB_dbits d a (by omega) h2
theorem byteAt_app (d t : ByteArray) (i : Nat) (h : i < d.size) : byteAt (d ++ t) i = byteAt d i := by
  unfold byteAt
  simp only [ByteArray.data_append]
  rw [Array.toList_append, List.getD_eq_getElem?_getD, List.getD_eq_getElem?_getD, List.getElem?_append_left (by simpa using h)]
theorem dbits_ext (d t : ByteArray) (a : Nat) (h : a ≤ 8 * d.size) : dbits (d ++ t) 0 a = dbits d 0 a := by
  unfold dbits
  apply List.map_congr_left
  intro j hj
  have := List.mem_range.1 hj
  unfold bitD
  rw [byteAt_app d t _ (by omega)]
def B01 (l : List Int) : Prop := ∀ b ∈ l, b = 0 ∨ b = 1
theorem B01.app {l l' : List Int} (h : B01 l) (h' : B01 l') : B01 (l ++ l') := fun b hb => (List.mem_append.1 hb).elim (h b) (h' b)
theorem fieldR_back (bs xs ys : List Int) (hb : B01 bs) (w : Nat) (x : Int) (h : bs = xs ++ bitsOf w x ++ ys) (hx : 0 ≤ x ∧ x < 2 ^ w) : fieldR (pkB bs) xs.length 0 true w = (x, xs.length + w, 0) := by
  have hl := congrArg List.length h
  rw [List.length_append, List.length_append, bitsOf_len] at hl
  have hs := pkB_size bs
  unfold fieldR
  rw [if_neg (by simp), if_neg (by simp), if_neg (by omega)]
  rw [show ((w : Int)).toNat = w from rfl, rdN_bits bs hb xs ys w x h, Int.emod_eq_of_lt hx.1 hx.2]
theorem rdB_back (bs xs ys : List Int) (hb : B01 bs) (s : ByteArray) (h : bs = xs ++ strBits s s.size ++ ys) : ∀ n, n ≤ s.size → rdB (pkB bs) xs.length n = (s.data.toList.take n).map fun b => (b.toNat : Int)
  | 0, _ => rfl
  | n + 1, hn => by
    have hsp : ∀ k i, i ≤ k → ∃ zs, strBits s k = strBits s i ++ zs := fun k => by
      induction k with
      | zero => intro i hi; obtain rfl : i = 0 := by omega
                exact ⟨[], rfl⟩
      | succ k ih =>
        intro i hi
        rcases Nat.lt_or_ge k i with h | h
        · obtain rfl : i = k + 1 := by omega
          exact ⟨[], by simp⟩
        · obtain ⟨zs, hz⟩ := ih i h
          exact ⟨zs ++ bitsOf 8 (byteAt s k).toNat, by rw [strBits, hz, List.append_assoc]⟩
    obtain ⟨zs, hz⟩ := hsp s.size (n + 1) hn
    rw [rdB, rdB_back bs xs ys hb s h n (by omega)]
    have hxl : (xs ++ strBits s n).length = xs.length + 8 * n := by rw [List.length_append, strBits_len]
    have := rdN_bits bs hb (xs ++ strBits s n) (zs ++ ys) 8 (byteAt s n).toNat (by rw [h, hz, strBits]; simp [List.append_assoc])
    rw [hxl] at this
    have hlt := (byteAt s n).toNat_lt
    rw [this, Int.emod_eq_of_lt (by omega) (by omega)]
    have hsl : s.data.toList.length = s.size := by rw [Array.length_toList]; rfl
    rw [List.take_add_one, List.map_append, List.getElem?_eq_getElem (by omega)]
    congr 1
    have e : byteAt s n = s.data.toList[n] := by unfold byteAt; rw [List.getD_eq_getElem?_getD, List.getElem?_eq_getElem (by omega)]; rfl
    rw [e]
    rfl
theorem pow_wdth (m : Int) (h : 1 ≤ m ∧ m ≤ 4095) (x : Int) (hx : 0 ≤ x ∧ x ≤ m) : x < 2 ^ (wdth m).toNat := by
  have h1 : wdth m = max 1 (bl m.toNat) := by unfold wdth; rw [if_neg (by omega)]
  have h2 := bl_pos m h.1
  have h3 := (bl_lt m (bl m.toNat) (by omega) (by omega)).1 (Int.le_refl _)
  rw [h1, show max 1 (bl m.toNat) = bl m.toNat by omega]
  omega
theorem txtR_back (bs xs ys : List Int) (hb : B01 bs) (m : Int) (s : ByteArray) (hm : 1 ≤ m ∧ m ≤ 4095) (hs : (s.size : Int) ≤ m) (h : bs = xs ++ bitsOf (wdth m).toNat s.size ++ strBits s s.size ++ ys) :
    txtR (pkB bs) xs.length 0 m = (s, xs.length + (wdth m).toNat + 8 * s.size, 0) := by
  have hw := wdth_bd m (by omega)
  have hl := congrArg List.length h
  rw [List.length_append, List.length_append, List.length_append, bitsOf_len, strBits_len] at hl
  have hsz := pkB_size bs
  have hf := fieldR_back bs xs (strBits s s.size ++ ys) hb (wdth m).toNat s.size (by rw [h]; simp [List.append_assoc]) ⟨by omega, pow_wdth m hm _ ⟨by omega, hs⟩⟩
  rw [show (((wdth m).toNat : Nat) : Int) = wdth m by omega] at hf
  have hd : decide (1 ≤ m ∧ m ≤ 4095) = true := decide_eq_true hm
  unfold txtR
  rw [hd, hf]
  dsimp only
  rw [if_neg (by simp), if_neg (by omega), if_neg (by omega)]
  have hxl : (xs ++ bitsOf (wdth m).toNat s.size).length = xs.length + (wdth m).toNat := by rw [List.length_append, bitsOf_len]
  have hB := rdB_back bs (xs ++ bitsOf (wdth m).toNat s.size) ys hb s h s.size (Nat.le_refl _)
  rw [hxl] at hB
  rw [show ((s.size : Nat) : Int).toNat = s.size from rfl, hB]
  have hsl : s.data.toList.length = s.size := by rw [Array.length_toList]; rfl
  rw [List.take_of_length_le (by omega), List.map_map]
  have e : s.data.toList.map (b8 ∘ fun b => (b.toNat : Int)) = s.data.toList := by
    conv => rhs; rw [← List.map_id s.data.toList]
    apply List.map_congr_left
    intro b _
    have hlt := b.toNat_lt
    apply UInt8.toNat_inj.1
    have := b8_toNat (z := (b.toNat : Int)) (by omega)
    show (b8 (b.toNat : Int)).toNat = (id b).toNat
    have : ((b8 (b.toNat : Int)).toNat : Int) = (b.toNat : Int) := this
    show _ = b.toNat
    omega
  rw [e]
theorem strBits_rd (d : ByteArray) (a : Nat) (s : ByteArray) (hs : ∀ i, i < s.size → ((byteAt s i).toNat : Int) = rdN d (a + 8 * i) 8) : ∀ n, n ≤ s.size → strBits s n = dbits d a (8 * n)
  | 0, _ => rfl
  | n + 1, h => by
    rw [strBits, strBits_rd d a s hs n (by omega), hs n (by omega), bits_rd, show 8 * (n + 1) = 8 * n + 8 by omega, dbits_app]
theorem rdB_get (d : ByteArray) (a : Nat) : ∀ n i, i < n → (rdB d a n).getD i 0 = rdN d (a + 8 * i) 8
  | 0, i, h => by omega
  | n + 1, i, h => by
    have hl := rdB_len d a n
    rw [rdB, List.getD_eq_getElem?_getD]
    rcases Nat.lt_or_ge i n with hi | hi
    · rw [List.getElem?_append_left (by omega), ← List.getD_eq_getElem?_getD]
      exact rdB_get d a n i hi
    · obtain rfl : i = n := by omega
      rw [List.getElem?_append_right (by omega), hl, Nat.sub_self]
      rfl
theorem txt_bits {d : ByteArray} {a a' : Nat} {e m : Int} {t : ByteArray} (h : txtR d a e m = (t, a', 0)) (ha : a ≤ 8 * d.size) (hm : 1 ≤ m ∧ m ≤ 4095) : e = 0 ∧ a' = a + (wdth m).toNat + 8 * t.size ∧ a' ≤ 8 * d.size ∧ (t.size : Int) ≤ m ∧ dbits d 0 a' = dbits d 0 a ++ (bitsOf (wdth m).toNat t.size ++ strBits t t.size) := by
  obtain ⟨v, a1, e1, hf⟩ : ∃ v a1 e1, fieldR d a e (decide (1 ≤ m ∧ m ≤ 4095)) (wdth m) = (v, a1, e1) := ⟨_, _, _, rfl⟩
  have hbd := fieldR_bd hf (by intro h; have := of_decide_eq_true h; exact wdth_bd m (by omega))
  have hcs := fieldR_cases hf
  have hwd := wdth_bd m (by omega)
  unfold txtR at h
  rw [hf] at h
  dsimp only at h
  by_cases he : e1 = 0
  · rw [if_neg (by simpa using he)] at h
    obtain ⟨_, he0, hr, c4, hv, h6⟩ : e1 = 0 ∧ e = 0 ∧ decide (1 ≤ m ∧ m ≤ 4095) = true ∧ a1 = a + (wdth m).toNat ∧ v = rdN d a (wdth m).toNat ∧ wdth m ≤ 8 * d.size - a := by
      rcases hcs with h | h
      · exact absurd he h.1
      · exact h
    split at h
    · simp at h
    · rename_i hmv
      split at h
      · simp at h
      · rename_i hlv
        simp only [Prod.mk.injEq] at h
        obtain ⟨ht, rfl, _⟩ := h
        have hsz : t.size = v.toNat := by rw [← ht]; show ((rdB d a1 v.toNat).map b8).toArray.size = _; simp [rdB_len]
        have hby : ∀ i, i < t.size → ((byteAt t i).toNat : Int) = rdN d (a1 + 8 * i) 8 := fun i hi => by
          rw [← ht, byteAt_map _ (rdB_rng d a1 v.toNat)]
          exact rdB_get d a1 _ i (by omega)
        have hs2 := strBits_rd d a1 t hby t.size (Nat.le_refl _)
        refine ⟨he0, by omega, by omega, by omega, ?_⟩
        rw [hs2, hsz, show ((v.toNat : Nat) : Int) = v by omega, dbits_app, Nat.zero_add, c4, dbits_app, Nat.zero_add, hv, bits_rd, List.append_assoc]
  · rw [if_pos he] at h
    simp only [Prod.mk.injEq] at h
    exact absurd h.2.2 he
end Go.Proofs.Ytfabgdignlfihaa
