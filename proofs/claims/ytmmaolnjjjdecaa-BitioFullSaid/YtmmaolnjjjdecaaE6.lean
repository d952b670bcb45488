/- Bits: what is read is written as it stood; plain. -/
import Derived.Test.YtmmaolnjjjdecaaE5
import Derived.Test.YtmmaolnjjjdecaaD11
set_option linter.unusedVariables false
set_option linter.unusedSimpArgs false
namespace Go.Proofs.Ytmmaolnjjjdecaa
open Go Av
set_option maxRecDepth 20000
theorem bitsOf_congr : ∀ (w : Nat) (x y : Int), x % 2 ^ w = y % 2 ^ w → bitsOf w x = bitsOf w y := fun w x y h => by
  apply List.ext_getElem?
  intro j
  rcases Nat.lt_or_ge j w with hj | hj
  · have e1 := bitsOf_get w x j hj
    have e2 := bitsOf_get w y j hj
    rw [← mod_bit x w (w - 1 - j) (by omega), h, mod_bit y w (w - 1 - j) (by omega), ← e2] at e1
    rw [List.getD_eq_getElem?_getD, List.getD_eq_getElem?_getD, List.getElem?_eq_getElem (by rw [bitsOf_len]; exact hj), List.getElem?_eq_getElem (by rw [bitsOf_len]; exact hj)] at e1
    rw [List.getElem?_eq_getElem (by rw [bitsOf_len]; exact hj), List.getElem?_eq_getElem (by rw [bitsOf_len]; exact hj)]
    simpa using e1
  · rw [List.getElem?_eq_none (by rw [bitsOf_len]; exact hj), List.getElem?_eq_none (by rw [bitsOf_len]; exact hj)]
theorem fieldW_ok {bs : List Int} {w x : Int} {r f : Bool} (hr : r = true) (hf : f = true) (hl : ¬ bs.length + w > 524288) : fieldW bs 0 r f w x = (bs ++ bitsOf w.toNat x, 0) := by
  unfold fieldW
  rw [if_neg (by simp), if_neg (by simp [hr]), if_neg (by simp [hf]), if_neg hl]
theorem strBits_rd (d : ByteArray) (a : Nat) (s : ByteArray) (hs : ∀ i, i < s.size → ((byteAt s i).toNat : Int) = rdN d (a + 8 * i) 8) : ∀ n, n ≤ s.size → strBits s n = dbits d a (8 * n)
  | 0, _ => rfl
  | n + 1, h => by
    rw [strBits, strBits_rd d a s hs n (by omega), hs n (by omega), bits_rd, show 8 * (n + 1) = 8 * n + 8 by omega, dbits_app]
theorem rdB_get (d : ByteArray) (a : Nat) : ∀ n i, i < n → (rdB d a n).getD i 0 = rdN d (a + 8 * i) 8
  | 0, i, h => by omega
  | n + 1, i, h => by
    have hl := rdB_len d a n
    rw [rdB, List.getD_eq_getElem?_getD]
    rcases Nat.lt_or_ge i n with hi | hi
    · rw [List.getElem?_append_left (by omega), ← List.getD_eq_getElem?_getD]
      exact rdB_get d a n i hi
    · obtain rfl : i = n := by omega
      rw [List.getElem?_append_right (by omega), hl, Nat.sub_self]
      rfl
/-- What was read is written as it stands there. -/
theorem strict {d : ByteArray} {a a' : Nat} {q w x w' x' : Int} {t t' : ByteArray} (h : rdF d a 0 q w x t = ((w', x', t'), a', 0)) (ha : a ≤ 8 * d.size) (hd : d.size ≤ 300) : wrF (dbits d 0 a) 0 q w' x' t' = (dbits d 0 a', 0) := by
  have hal : (dbits d 0 a).length = a := dbits_len d 0 a
  have happ : ∀ k, dbits d 0 (a + k) = dbits d 0 a ++ dbits d a k := fun k => by rw [dbits_app, Nat.zero_add]
  unfold rdF at h
  unfold wrF
  split at h
  · rename_i h0
    rw [if_pos h0]
    simp only [Prod.mk.injEq] at h
    obtain ⟨⟨rfl, rfl, rfl⟩, h⟩ := h
    have hf : unsR d a 0 w = ((unsR d a 0 w).1, a', 0) := Prod.ext rfl h
    unfold unsR at hf
    rcases fieldR_cases hf with ⟨h1, _⟩ | ⟨_, _, hr, rfl, hv, h6⟩
    · exact absurd rfl h1
    · have hw := of_decide_eq_true hr
      have hb := rdN_bd d a w.toNat
      unfold unsW unsR
      rw [hv, fieldW_ok hr (decide_eq_true hb) (by rw [hal]; omega), bits_rd, happ]
  · rename_i h0
    rw [if_neg h0]
    split at h
    · rename_i h1
      rw [if_pos h1]
      simp only [Prod.mk.injEq] at h
      obtain ⟨⟨rfl, hx, rfl⟩, h⟩ := h
      unfold sgnR at h hx
      have hf : fieldR d a 0 (decide (2 ≤ w ∧ w ≤ 63)) w = ((fieldR d a 0 (decide (2 ≤ w ∧ w ≤ 63)) w).1, a', 0) := Prod.ext rfl h
      rcases fieldR_cases hf with ⟨h1, _⟩ | ⟨_, _, hr, rfl, hv, h6⟩
      · exact absurd rfl h1
      · have hw := of_decide_eq_true hr
        have hb := rdN_bd d a w.toNat
        have hpw : (2 : Int) ^ w.toNat = 2 ^ (w - 1).toNat * 2 := by rw [← Int.pow_succ]; congr 1; omega
        rw [hv] at hx
        have hfit : -(2 ^ (w - 1).toNat) ≤ x' ∧ x' < 2 ^ (w - 1).toNat := by rw [← hx]; dsimp only; split <;> omega
        have hbits : bitsOf w.toNat x' = dbits d a w.toNat := by
          rw [← bits_rd d a w.toNat]
          apply bitsOf_congr
          rw [← hx]
          dsimp only
          split
          · rw [Int.sub_emod_right]
          · rfl
        unfold sgnW
        rw [fieldW_ok hr (decide_eq_true hfit) (by rw [hal]; omega), hbits, happ]
    · rename_i h1
      rw [if_neg h1]
      split at h
      · rename_i h2
        rw [if_pos h2]
        simp only [Prod.mk.injEq] at h
        obtain ⟨⟨_, hx, _⟩, h⟩ := h
        unfold flgR at h hx
        have hf : fieldR d a 0 true 1 = ((fieldR d a 0 true 1).1, a', 0) := Prod.ext rfl h
        rcases fieldR_cases hf with ⟨h1, _⟩ | ⟨_, _, hr, rfl, hv, h6⟩
        · exact absurd rfl h1
        · rw [hv] at hx
          have hb := rdN_bd d a 1
          have hbits : bitsOf (1 : Int).toNat (if decide (¬ x' = 0) = true then 1 else 0) = dbits d a 1 := by
            rw [← bits_rd d a 1, ← hx]
            congr 1
            have : rdN d a 1 = 0 ∨ rdN d a 1 = 1 := by
              have : (2 : Int) ^ 1 = 2 := by decide
              omega
            rcases this with h | h
            · show (if decide (¬ (if decide (rdN d a 1 = 1) = true then (1 : Int) else 0) = 0) = true then (1 : Int) else 0) = rdN d a 1
              rw [h]; rfl
            · show (if decide (¬ (if decide (rdN d a 1 = 1) = true then (1 : Int) else 0) = 0) = true then (1 : Int) else 0) = rdN d a 1
              rw [h]; rfl
          unfold flgW
          rw [fieldW_ok rfl rfl (by rw [hal]; omega), hbits, show (1 : Int).toNat = 1 from rfl, happ]
      · rename_i h2
        rw [if_neg h2]
        split at h
        · rename_i h3
          rw [if_pos h3]
          simp only [Prod.mk.injEq] at h
          obtain ⟨⟨rfl, _, ht⟩, h⟩ := h
          obtain ⟨v, a1, e1, hf⟩ : ∃ v a1 e1, fieldR d a 0 (decide (1 ≤ w ∧ w ≤ 4095)) (wdth w) = (v, a1, e1) := ⟨_, _, _, rfl⟩
          have hbd := fieldR_bd hf (by intro h; have := of_decide_eq_true h; exact wdth_bd w (by omega))
          have hcs := fieldR_cases hf
          unfold txtR at h ht
          rw [hf] at h ht
          dsimp only at h ht
          by_cases he : e1 = 0
          · rw [if_neg (by simpa using he)] at h ht
            obtain ⟨_, _, hr, c4, hv, h6⟩ : e1 = 0 ∧ (0 : Int) = 0 ∧ decide (1 ≤ w ∧ w ≤ 4095) = true ∧ a1 = a + (wdth w).toNat ∧ v = rdN d a (wdth w).toNat ∧ wdth w ≤ 8 * d.size - a := by
              rcases hcs with h | h
              · exact absurd he h.1
              · exact h
            have hm := of_decide_eq_true hr
            have hwd := wdth_bd w (by omega)
            split at h
            · simp at h
            · rename_i hmv
              rw [if_neg hmv] at ht
              split at h
              · simp at h
              · rename_i hlv
                rw [if_neg hlv] at ht
                simp only [Prod.mk.injEq] at h
                obtain ⟨rfl, _⟩ := h
                have hsz : t'.size = v.toNat := by rw [← ht]; show ((rdB d a1 v.toNat).map b8).toArray.size = _; simp [rdB_len]
                have hby : ∀ i, i < t'.size → ((byteAt t' i).toNat : Int) = rdN d (a1 + 8 * i) 8 := fun i hi => by
                  rw [← ht, byteAt_map _ (rdB_rng d a1 v.toNat)]
                  exact rdB_get d a1 _ i (by omega)
                have hs2 := strBits_rd d a1 t' hby t'.size (Nat.le_refl _)
                unfold txtW
                rw [if_neg (by simp), if_neg (by simpa using hm), if_neg (by rw [hal]; omega), hs2, hsz, show ((v.toNat : Nat) : Int) = v by omega, hv, bits_rd, ← happ, ← c4, show a1 + 8 * (rdN d a (wdth w).toNat).toNat = a1 + 8 * v.toNat by rw [hv], dbits_app, Nat.zero_add, hv]
          · rw [if_pos he] at h
            simp only [Prod.mk.injEq] at h
            exact absurd h.2 he
        · rename_i h3
          rw [if_neg h3]
          simp only [Prod.mk.injEq] at h
          rw [h.2.1]
theorem rdF_rng {d : ByteArray} {a a' : Nat} {e e' q w x w' x' : Int} {t t' : ByteArray} (h : rdF d a e q w x t = ((w', x', t'), a', e')) (ha : a ≤ 8 * d.size) (hd : d.size ≤ 300) (hw : -9223372036854775808 ≤ w ∧ w ≤ 9223372036854775807) (hx : -9223372036854775808 ≤ x ∧ x ≤ 9223372036854775807) (ht : t.size ≤ 200) : (-9223372036854775808 ≤ w' ∧ w' ≤ 9223372036854775807) ∧ (-9223372036854775808 ≤ x' ∧ x' ≤ 9223372036854775807) ∧ t'.size ≤ 1000000 := by
  have key : ∀ {r : Bool} {w : Int}, (r = true → 1 ≤ w ∧ w ≤ 63) → 0 ≤ (fieldR d a e r w).1 ∧ (fieldR d a e r w).1 ≤ 9223372036854775807 := fun hw => fieldR_bd (e' := (fieldR d a e _ _).2.2) (a' := (fieldR d a e _ _).2.1) rfl hw
  unfold rdF at h
  split at h
  · simp only [Prod.mk.injEq] at h
    obtain ⟨⟨rfl, rfl, rfl⟩, _⟩ := h
    have := key (r := decide (1 ≤ w ∧ w ≤ 63)) (w := w) (by simp)
    unfold unsR
    exact ⟨hw, by omega, by decide⟩
  · split at h
    · simp only [Prod.mk.injEq] at h
      obtain ⟨⟨rfl, hx, rfl⟩, _⟩ := h
      refine ⟨hw, ?_, by decide⟩
      have k := key (r := decide (2 ≤ w ∧ w ≤ 63)) (w := w) (by simp; omega)
      unfold sgnR at hx
      rw [← hx]
      dsimp only
      split
      · rename_i hge
        by_cases hr : 2 ≤ w ∧ w ≤ 63
        · have h1 : (2 : Nat) ^ w.toNat ≤ 2 ^ 63 := Nat.pow_le_pow_right (by omega) (by omega)
          have h3 : ((2 ^ w.toNat : Nat) : Int) = (2 : Int) ^ w.toNat := by push_cast; rfl
          have hp : (0 : Int) < 2 ^ w.toNat := Int.pow_pos (by decide)
          omega
        · have hz : (fieldR d a e (decide (2 ≤ w ∧ w ≤ 63)) w).1 = 0 := by
            unfold fieldR
            split
            · rfl
            · rw [if_pos (decide_eq_false hr)]
          have hp : (0 : Int) < 2 ^ (w - 1).toNat := Int.pow_pos (by decide)
          omega
      · omega
    · split at h
      · simp only [Prod.mk.injEq] at h
        obtain ⟨⟨rfl, rfl, rfl⟩, _⟩ := h
        exact ⟨by decide, by split <;> decide, by decide⟩
      · split at h
        · simp only [Prod.mk.injEq] at h
          obtain ⟨⟨rfl, rfl, rfl⟩, _⟩ := h
          refine ⟨hw, by decide, ?_⟩
          obtain ⟨v, a1, e1, hf⟩ : ∃ v a1 e1, fieldR d a e (decide (1 ≤ w ∧ w ≤ 4095)) (wdth w) = (v, a1, e1) := ⟨_, _, _, rfl⟩
          unfold txtR
          rw [hf]
          dsimp only
          split
          · show (0 : Nat) ≤ _; omega
          · split
            · show (0 : Nat) ≤ _; omega
            · split
              · show (0 : Nat) ≤ _; omega
              · show ((rdB d a1 v.toNat).map b8).toArray.size ≤ _
                rename_i h1 h2 h3
                simp [rdB_len]
                omega
        · simp only [Prod.mk.injEq] at h
          obtain ⟨⟨rfl, rfl, rfl⟩, _⟩ := h
          exact ⟨hw, hx, by omega⟩
end Go.Proofs.Ytmmaolnjjjdecaa
