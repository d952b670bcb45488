/- Bits: packed bytes. -/
import Derived.Test.YtdbcbclapipgdaaGreatDoorVO
import Derived.Test.YtdbcbclapipgdaaGreatDoorJ
import Derived.Test.YtdbcbclapipgdaaGreatDoorC13
set_option linter.unusedVariables false
set_option linter.unusedSimpArgs false
namespace Go.Proofs.YtdbcbclapipgdaaGreatDoor
open Go Av
set_option maxRecDepth 20000
theorem orB : ∀ (Y : Fin 256) (s : Fin 8) (b : Fin 2) (t : Fin 8), bitv .or .u8 (Y.val : Int) (IntKind.u8.wrap ((b.val : Int) * 2 ^ s.val)) / 2 ^ t.val % 2 = if t = s ∧ b = 1 then 1 else (Y.val : Int) / 2 ^ t.val % 2 := by decide +kernel
theorem orB' (Y b : Int) (s t : Nat) (hY : 0 ≤ Y ∧ Y ≤ 255) (hb : b = 0 ∨ b = 1) (hs : s < 8) (ht : t < 8) : bitv .or .u8 Y (IntKind.u8.wrap (b * 2 ^ s)) / 2 ^ t % 2 = if t = s ∧ b = 1 then 1 else Y / 2 ^ t % 2 := by
  have := orB ⟨Y.toNat, by omega⟩ ⟨s, hs⟩ ⟨b.toNat, by omega⟩ ⟨t, ht⟩
  simp only [Int.toNat_of_nonneg hY.1, Int.toNat_of_nonneg (show 0 ≤ b by omega)] at this
  rw [this]
  have e1 : (Fin.mk t ht = Fin.mk s hs) ↔ t = s := by simp [Fin.ext_iff]
  have e2 : (Fin.mk b.toNat (by omega : b.toNat < 2) = 1) ↔ b = 1 := by rcases hb with rfl | rfl <;> simp
  simp only [e1, e2]
theorem getD_set_self {l : List Int} {i : Nat} {x : Int} (h : i < l.length) : (l.set i x).getD i 0 = x := by
  rw [List.getD_eq_getElem?_getD, List.getElem?_set, if_pos rfl, if_pos h]; rfl
theorem getD_set_ne {l : List Int} {i j : Nat} {x : Int} (h : i ≠ j) : (l.set i x).getD j 0 = l.getD j 0 := by
  rw [List.getD_eq_getElem?_getD, List.getElem?_set, if_neg h, List.getD_eq_getElem?_getD]
theorem getD_rng {l : List Int} (h : ∀ z ∈ l, 0 ≤ z ∧ z ≤ 255) (i : Nat) : 0 ≤ l.getD i 0 ∧ l.getD i 0 ≤ 255 := by
  rw [List.getD_eq_getElem?_getD]
  cases hi : l[i]? with
  | none => simp
  | some z => exact h z (List.mem_of_getElem? hi)
theorem getD_app_zero (l : List Int) (i : Nat) : (l ++ [0]).getD i 0 = l.getD i 0 := by
  rw [List.getD_eq_getElem?_getD, List.getD_eq_getElem?_getD]
  rcases Nat.lt_or_ge i l.length with h | h
  · rw [List.getElem?_append_left h]
  · rw [List.getElem?_append_right h, List.getElem?_eq_none h]
    cases hk : i - l.length with
    | zero => rfl
    | succ k => rfl
/-- The bits of the packed bytes. -/
theorem pk_bits (bs : List Int) (hb : ∀ b ∈ bs, b = 0 ∨ b = 1) : ∀ k, k ≤ bs.length → ∀ j, (pkN bs k).getD (j / 8) 0 / 2 ^ (7 - j % 8) % 2 = if j < k then bs.getD j 0 else 0
  | 0, _, j => by simp [pkN]
  | k + 1, hk, j => by
    have ih := pk_bits bs hb k (by omega)
    have hr := pkN_rng bs k
    have hl := pkN_len bs k
    rw [pkN, pkS]
    obtain ⟨Y, hY⟩ : ∃ Y, (if k % 8 = 0 then pkN bs k ++ [0] else pkN bs k) = Y := ⟨_, rfl⟩
    have hg : ∀ i, Y.getD i 0 = (pkN bs k).getD i 0 := fun i => by
      rw [← hY]
      split
      · exact getD_app_zero _ _
      · rfl
    have hYl : k / 8 < Y.length := by
      rw [← hY]
      split
      · rw [List.length_append, hl]; simp; omega
      · rw [hl]; omega
    have hbk : bs.getD k 0 = 0 ∨ bs.getD k 0 = 1 := by
      rw [List.getD_eq_getElem?_getD, List.getElem?_eq_getElem (by omega)]
      exact hb _ (List.getElem_mem _)
    simp only [hY]
    by_cases hq : j / 8 = k / 8
    · rw [hq, getD_set_self hYl, hg, orB' _ _ _ _ (getD_rng hr _) hbk (by omega) (by omega)]
      have ihj := ih j
      rw [hq] at ihj
      rw [ihj]
      by_cases hjk : j = k
      · subst hjk
        have n1 : ¬ j < j := by omega
        have n2 : j < j + 1 := by omega
        rw [if_neg n1, if_pos n2]
        rcases hbk with h | h
        · rw [if_neg (by rw [h]; simp), h]
        · rw [if_pos ⟨rfl, h⟩, h]
      · rw [if_neg (by omega)]
        by_cases hlt : j < k
        · rw [if_pos hlt, if_pos (by omega)]
        · rw [if_neg hlt, if_neg (by omega)]
    · rw [getD_set_ne (fun h => hq h.symm), hg, ih j]
      by_cases hlt : j < k
      · rw [if_pos hlt, if_pos (by omega)]
      · rw [if_neg hlt, if_neg (by omega)]
theorem pkB_size (bs : List Int) : (pkB bs).size = (bs.length + 7) / 8 := by
  show ((pack bs).map b8).toArray.size = _
  simp [pack_len]
theorem b8_toNat {z : Int} (h : 0 ≤ z ∧ z ≤ 255) : ((b8 z).toNat : Int) = z := by
  have := u8v_b8 z
  unfold u8v at this
  injection this with _ h2
  rw [h2]
  exact wrap_id (by simp [IntKind.min, IntKind.signed]; omega) (by simp [IntKind.max, IntKind.signed, IntKind.bits]; omega)
theorem byteAt_map (Z : List Int) (h : ∀ z ∈ Z, 0 ≤ z ∧ z ≤ 255) (i : Nat) : ((byteAt ⟨(Z.map b8).toArray⟩ i).toNat : Int) = Z.getD i 0 := by
  have e : byteAt ⟨(Z.map b8).toArray⟩ i = (Z.map b8).getD i 0 := rfl
  rw [e, List.getD_eq_getElem?_getD, List.getD_eq_getElem?_getD, List.getElem?_map]
  cases hi : Z[i]? with
  | none => rfl
  | some z => exact b8_toNat (h z (List.mem_of_getElem? hi))
theorem pkB_bit (bs : List Int) (hb : ∀ b ∈ bs, b = 0 ∨ b = 1) (j : Nat) : bitD (pkB bs) j = if j < bs.length then bs.getD j 0 else 0 := by
  unfold bitD pkB
  rw [byteAt_map (pack bs) (show ∀ z ∈ pack bs, 0 ≤ z ∧ z ≤ 255 from pkN_rng bs bs.length)]
  exact pk_bits bs hb bs.length (Nat.le_refl _) j
theorem mod_bit (x : Int) (w t : Nat) (h : t < w) : x % 2 ^ w / 2 ^ t % 2 = x / 2 ^ t % 2 := by
  have h1 : x = x % 2 ^ w + 2 ^ t * (2 ^ (w - t) * (x / 2 ^ w)) := by
    have e := Int.mul_ediv_add_emod x (2 ^ w)
    rw [← Int.mul_assoc, ← Int.pow_add, show t + (w - t) = w by omega]
    omega
  have hp : (2 : Int) ^ t ≠ 0 := Int.ne_of_gt (Int.pow_pos (by decide))
  have h2 : x / 2 ^ t = x % 2 ^ w / 2 ^ t + 2 ^ (w - t) * (x / 2 ^ w) := by
    conv => lhs; rw [h1]
    rw [Int.add_mul_ediv_left _ _ hp]
  rw [h2, show (2 : Int) ^ (w - t) = 2 * 2 ^ (w - t - 1) from by rw [← Int.pow_succ']; congr 1; omega, Int.mul_assoc]
  omega
theorem bitsOf_get : ∀ (w : Nat) (x : Int) (j : Nat), j < w → (bitsOf w x).getD j 0 = x / 2 ^ (w - 1 - j) % 2
  | 0, _, _, h => by omega
  | w + 1, x, 0, _ => rfl
  | w + 1, x, j + 1, h => by
    rw [bitsOf, List.getD_cons_succ, bitsOf_get w x j (by omega)]
    congr 3
    omega
theorem rdN_of (d : ByteArray) (a w : Nat) (x : Int) (h : ∀ j, j < w → bitD d (a + j) = x / 2 ^ (w - 1 - j) % 2) : ∀ k, k ≤ w → rdN d a k = x % 2 ^ w / 2 ^ (w - k)
  | 0, _ => by
    have hp : (0 : Int) < 2 ^ w := Int.pow_pos (by decide)
    rw [rdN, Nat.sub_zero, Int.ediv_eq_zero_of_lt (Int.emod_nonneg _ (Int.ne_of_gt hp)) (Int.emod_lt_of_pos _ hp)]
  | k + 1, hk => by
    rw [rdN, rdN_of d a w x h k (by omega), h k (by omega), ← mod_bit x w (w - 1 - k) (by omega)]
    have e : x % 2 ^ w / 2 ^ (w - k) = x % 2 ^ w / 2 ^ (w - 1 - k) / 2 := by
      rw [Int.ediv_ediv_of_nonneg (by have : (0 : Int) < 2 ^ (w - 1 - k) := Int.pow_pos (by decide); omega), ← Int.pow_succ]
      congr 2; omega
    rw [e, show w - (k + 1) = w - 1 - k by omega]
    omega
/-- A number is read whose bits stand there. -/
theorem rdN_bits (bs : List Int) (hb : ∀ b ∈ bs, b = 0 ∨ b = 1) (xs ys : List Int) (w : Nat) (x : Int) (h : bs = xs ++ bitsOf w x ++ ys) : rdN (pkB bs) xs.length w = x % 2 ^ w := by
  have := rdN_of (pkB bs) xs.length w x (fun j hj => by
    rw [pkB_bit bs hb, if_pos (by rw [h]; simp [bitsOf_len]; omega), ← bitsOf_get w x j hj, h, List.getD_eq_getElem?_getD, List.getD_eq_getElem?_getD, List.append_assoc, List.getElem?_append_right (by omega), Nat.add_sub_cancel_left, List.getElem?_append_left (by rw [bitsOf_len]; exact hj)]) w (Nat.le_refl _)
  rw [this, Nat.sub_self]
  simp
/-- The bits of what was read are those that stand there. -/
theorem rdN_get (d : ByteArray) (a : Nat) : ∀ (w j : Nat), j < w → rdN d a w / 2 ^ (w - 1 - j) % 2 = bitD d (a + j)
  | 0, _, h => by omega
  | w + 1, j, h => by
    have hb := bitD_bd d (a + w)
    rw [rdN]
    rcases Nat.lt_or_ge j w with hj | hj
    · rw [← rdN_get d a w j hj, show w + 1 - 1 - j = (w - 1 - j) + 1 by omega, Int.pow_succ', ← Int.ediv_ediv_of_nonneg (by decide)]
      congr 2
      omega
    · obtain rfl : j = w := by omega
      rw [show j + 1 - 1 - j = 0 by omega]
      simp
      omega
def dbits (d : ByteArray) (a n : Nat) : List Int := (List.range n).map fun j => bitD d (a + j)
theorem dbits_len (d a n) : (dbits d a n).length = n := by simp [dbits]
theorem dbits_app (d a n k) : dbits d a (n + k) = dbits d a n ++ dbits d (a + n) k := by
  unfold dbits
  rw [List.range_add, List.map_append, List.map_map]
  congr 1
  apply List.map_congr_left
  intro j _
  show bitD d (a + (n + j)) = bitD d (a + n + j)
  rw [Nat.add_assoc]
theorem dbits_01 (d a n) : ∀ b ∈ dbits d a n, b = 0 ∨ b = 1 := fun b h => by
  obtain ⟨j, _, rfl⟩ := List.mem_map.1 h
  have := bitD_bd d (a + j)
  omega
theorem bits_rd (d : ByteArray) (a w : Nat) : bitsOf w (rdN d a w) = dbits d a w := by
  apply List.ext_getElem?
  intro j
  rcases Nat.lt_or_ge j w with h | h
  · have e := bitsOf_get w (rdN d a w) j h
    rw [rdN_get d a w j h, List.getD_eq_getElem?_getD, List.getElem?_eq_getElem (by rw [bitsOf_len]; exact h)] at e
    rw [List.getElem?_eq_getElem (by rw [bitsOf_len]; exact h), dbits, List.getElem?_map, List.getElem?_range h]
    simpa using e
  · rw [List.getElem?_eq_none (by rw [bitsOf_len]; exact h), List.getElem?_eq_none (by rw [dbits_len]; exact h)]
theorem byte_bits : ∀ (x y : Fin 256), (∀ t : Fin 8, (x.val : Int) / 2 ^ t.val % 2 = (y.val : Int) / 2 ^ t.val % 2) → x = y := by
  intro x y h
  have e : ∀ z : Fin 256, (z.val : Int) = (z.val : Int) / 2 ^ 0 % 2 + 2 * ((z.val : Int) / 2 ^ 1 % 2) + 4 * ((z.val : Int) / 2 ^ 2 % 2) + 8 * ((z.val : Int) / 2 ^ 3 % 2) + 16 * ((z.val : Int) / 2 ^ 4 % 2) + 32 * ((z.val : Int) / 2 ^ 5 % 2) + 64 * ((z.val : Int) / 2 ^ 6 % 2) + 128 * ((z.val : Int) / 2 ^ 7 % 2) := by decide +kernel
  have h0 := h 0; have h1 := h 1; have h2 := h 2; have h3 := h 3; have h4 := h 4; have h5 := h 5; have h6 := h 6; have h7 := h 7
  have ex := e x
  have ey := e y
  apply Fin.ext
  simp only [show (0 : Fin 8).val = 0 from rfl, show (1 : Fin 8).val = 1 from rfl, show (2 : Fin 8).val = 2 from rfl, show (3 : Fin 8).val = 3 from rfl, show (4 : Fin 8).val = 4 from rfl, show (5 : Fin 8).val = 5 from rfl, show (6 : Fin 8).val = 6 from rfl, show (7 : Fin 8).val = 7 from rfl] at h0 h1 h2 h3 h4 h5 h6 h7
  rw [h0, h1, h2, h3, h4, h5, h6, h7] at ex
  omega
/-- A string whose last bits are zero is that of its bits. -/
theorem pkB_dbits (d : ByteArray) (n : Nat) (h1 : (n + 7) / 8 = d.size) (h2 : ∀ j, n ≤ j → j < 8 * d.size → bitD d j = 0) : pkB (dbits d 0 n) = d := by
  have hs := pkB_size (dbits d 0 n)
  rw [dbits_len, h1] at hs
  have key : ∀ i, i < d.size → byteAt (pkB (dbits d 0 n)) i = byteAt d i := fun i hi => by
    have hb := byte_bits ⟨(byteAt (pkB (dbits d 0 n)) i).toNat, UInt8.toNat_lt _⟩ ⟨(byteAt d i).toNat, UInt8.toNat_lt _⟩ fun t => by
      have ht := t.isLt
      have e := pkB_bit (dbits d 0 n) (dbits_01 d 0 n) (8 * i + (7 - t.val))
      have e2 : bitD d (8 * i + (7 - t.val)) = ((byteAt d i).toNat : Int) / 2 ^ t.val % 2 := by
        unfold bitD
        rw [show (8 * i + (7 - t.val)) / 8 = i by omega, show 7 - (8 * i + (7 - t.val)) % 8 = t.val by omega]
      have e3 : bitD (pkB (dbits d 0 n)) (8 * i + (7 - t.val)) = ((byteAt (pkB (dbits d 0 n)) i).toNat : Int) / 2 ^ t.val % 2 := by
        unfold bitD
        rw [show (8 * i + (7 - t.val)) / 8 = i by omega, show 7 - (8 * i + (7 - t.val)) % 8 = t.val by omega]
      show ((byteAt (pkB (dbits d 0 n)) i).toNat : Int) / 2 ^ t.val % 2 = ((byteAt d i).toNat : Int) / 2 ^ t.val % 2
      rw [← e3, ← e2, e, dbits_len]
      split
      · rename_i hlt
        rw [List.getD_eq_getElem?_getD, dbits, List.getElem?_map, List.getElem?_range hlt]
        simp
      · rename_i hge
        exact (h2 _ (by omega) (by omega)).symm
    have := congrArg Fin.val hb
    exact UInt8.toNat_inj.1 this
  have hdata : (pkB (dbits d 0 n)).data.toList = d.data.toList := by
    apply List.ext_getElem?
    intro i
    have l1 : (pkB (dbits d 0 n)).data.toList.length = d.size := by rw [Array.length_toList]; exact hs
    have l2 : d.data.toList.length = d.size := by rw [Array.length_toList]; rfl
    rcases Nat.lt_or_ge i d.size with hi | hi
    · have k := key i hi
      unfold byteAt at k
      rw [List.getD_eq_getElem?_getD, List.getD_eq_getElem?_getD, List.getElem?_eq_getElem (by omega), List.getElem?_eq_getElem (by omega)] at k
      rw [List.getElem?_eq_getElem (by omega), List.getElem?_eq_getElem (by omega)]
      simpa using k
    · rw [List.getElem?_eq_none (by omega), List.getElem?_eq_none (by omega)]
  cases hx : pkB (dbits d 0 n)
  cases d
  rw [hx] at hdata
  congr
  exact Array.ext' hdata
end Go.Proofs.YtdbcbclapipgdaaGreatDoor
