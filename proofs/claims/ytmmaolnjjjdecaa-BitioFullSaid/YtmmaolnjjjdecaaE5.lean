/- Bits: fields written and read, one behind the other; plain. -/
import Derived.Test.YtmmaolnjjjdecaaE1
import Derived.Test.YtmmaolnjjjdecaaE2
import Derived.Test.YtmmaolnjjjdecaaE4
import Derived.Test.YtmmaolnjjjdecaaD7
set_option linter.unusedVariables false
set_option linter.unusedSimpArgs false
namespace Go.Proofs.Ytmmaolnjjjdecaa
open Go Av
set_option maxRecDepth 20000
/-- What a writer does: nothing, an error, or some bits more. -/
theorem fieldW_cases {bs bs' : List Int} {e e' w x : Int} {r f : Bool} (h : fieldW bs e r f w x = (bs', e')) (hw : r = true → 0 ≤ w) :
    (e' ≠ 0 ∧ bs' = bs ∧ (e ≠ 0 → e' = e)) ∨ (e' = 0 ∧ e = 0 ∧ r = true ∧ f = true ∧ bs' = bs ++ bitsOf w.toNat x ∧ bs.length + w ≤ 524288) := by
  unfold fieldW at h
  split at h
  · obtain ⟨rfl, rfl⟩ := Prod.mk.inj h; rename_i h1; exact .inl ⟨h1, rfl, fun _ => rfl⟩
  · rename_i h0
    split at h
    · obtain ⟨rfl, rfl⟩ := Prod.mk.inj h; exact .inl ⟨by decide, rfl, fun h => absurd h h0⟩
    · split at h
      · obtain ⟨rfl, rfl⟩ := Prod.mk.inj h; exact .inl ⟨by decide, rfl, fun h => absurd h h0⟩
      · split at h
        · obtain ⟨rfl, rfl⟩ := Prod.mk.inj h; exact .inl ⟨by decide, rfl, fun h => absurd h h0⟩
        · obtain ⟨rfl, rfl⟩ := Prod.mk.inj h
          rename_i h1 h2 h3
          exact .inr ⟨rfl, by omega, by simpa using h1, by simpa using h2, rfl, by omega⟩
theorem txtW_cases {bs bs' : List Int} {e e' m : Int} {s : ByteArray} (h : txtW bs e m s = (bs', e')) :
    (e' ≠ 0 ∧ bs' = bs ∧ (e ≠ 0 → e' = e)) ∨ (e' = 0 ∧ e = 0 ∧ (1 ≤ m ∧ m ≤ 4095) ∧ (s.size : Int) ≤ m ∧ bs' = bs ++ bitsOf (wdth m).toNat s.size ++ strBits s s.size ∧ bs.length + wdth m + 8 * s.size ≤ 524288) := by
  unfold txtW at h
  split at h
  · obtain ⟨rfl, rfl⟩ := Prod.mk.inj h; rename_i h1; exact .inl ⟨h1, rfl, fun _ => rfl⟩
  · rename_i h0
    split at h
    · obtain ⟨rfl, rfl⟩ := Prod.mk.inj h; exact .inl ⟨by decide, rfl, fun h => absurd h h0⟩
    · split at h
      · obtain ⟨rfl, rfl⟩ := Prod.mk.inj h; exact .inl ⟨by decide, rfl, fun h => absurd h h0⟩
      · obtain ⟨rfl, rfl⟩ := Prod.mk.inj h
        rename_i h1 h2
        exact .inr ⟨rfl, by omega, by omega, by omega, rfl, by omega⟩
theorem strBits_01 (s : ByteArray) : ∀ i, ∀ b ∈ strBits s i, b = 0 ∨ b = 1
  | 0, b, h => by cases h
  | i + 1, b, h => by
    rw [strBits, List.mem_append] at h
    rcases h with h | h
    · exact strBits_01 s i b h
    · exact bitsOf_01 _ _ b h
def B01 (l : List Int) : Prop := ∀ b ∈ l, b = 0 ∨ b = 1
theorem B01.app {l l' : List Int} (h : B01 l) (h' : B01 l') : B01 (l ++ l') := fun b hb => (List.mem_append.1 hb).elim (h b) (h' b)
theorem fieldW_keep {bs bs' : List Int} {e e' w x : Int} {r f : Bool} (h : fieldW bs e r f w x = (bs', e')) (hw : r = true → 0 ≤ w) (hl : bs.length ≤ 524288) (hb : B01 bs) : bs'.length ≤ 524288 ∧ B01 bs' := by
  rcases fieldW_cases h hw with ⟨_, rfl, _⟩ | ⟨_, _, hr, _, rfl, h2⟩
  · exact ⟨hl, hb⟩
  · have := hw hr
    refine ⟨by rw [List.length_append, bitsOf_len]; omega, hb.app (bitsOf_01 _ _)⟩
theorem wrF_keep {bs bs' : List Int} {e e' q w x : Int} {t : ByteArray} (h : wrF bs e q w x t = (bs', e')) (hl : bs.length ≤ 524288) (hb : B01 bs) : bs'.length ≤ 524288 ∧ B01 bs' := by
  unfold wrF at h
  split at h
  · exact fieldW_keep h (fun h => by simp at h; omega) hl hb
  · split at h
    · exact fieldW_keep h (fun h => by simp at h; omega) hl hb
    · split at h
      · exact fieldW_keep h (fun _ => by decide) hl hb
      · split at h
        · rcases txtW_cases h with ⟨_, rfl, _⟩ | ⟨_, _, hm, _, rfl, h2⟩
          · exact ⟨hl, hb⟩
          · have := wdth_bd w (by omega)
            refine ⟨by rw [List.length_append, List.length_append, bitsOf_len, strBits_len]; omega, (hb.app (bitsOf_01 _ _)).app (strBits_01 _ _)⟩
        · obtain ⟨rfl, rfl⟩ := Prod.mk.inj h; exact ⟨hl, hb⟩
/-- All fields in front of one are written. -/
def wrs (l : List Fd) : Nat → List Int × Int
  | 0 => ([], 0)
  | i + 1 => match l[i]? with
    | some f => wrF (wrs l i).1 (wrs l i).2 f.1 f.2.1 f.2.2.1 f.2.2.2.1
    | none => wrs l i
theorem wrF_err {bs bs' : List Int} {e e' q w x : Int} {t : ByteArray} (h : wrF bs e q w x t = (bs', e')) : (e ≠ 0 → e' = e ∧ bs' = bs) ∧ ∃ ys, bs' = bs ++ ys := by
  have key : ∀ {r f : Bool} {w x : Int}, (r = true → 0 ≤ w) → fieldW bs e r f w x = (bs', e') → (e ≠ 0 → e' = e ∧ bs' = bs) ∧ ∃ ys, bs' = bs ++ ys := fun hw h => by
    rcases fieldW_cases h hw with ⟨_, rfl, h3⟩ | ⟨_, h0, _, _, rfl, _⟩
    · exact ⟨fun h => ⟨h3 h, rfl⟩, [], by simp⟩
    · exact ⟨fun h => absurd h0 h, _, rfl⟩
  unfold wrF at h
  split at h
  · exact key (fun h => by simp at h; omega) h
  · split at h
    · exact key (fun h => by simp at h; omega) h
    · split at h
      · exact key (fun _ => by decide) h
      · split at h
        · rcases txtW_cases h with ⟨_, rfl, h3⟩ | ⟨_, h0, _, _, rfl, _⟩
          · exact ⟨fun h => ⟨h3 h, rfl⟩, [], by simp⟩
          · exact ⟨fun h => absurd h0 h, _, List.append_assoc ..⟩
        · obtain ⟨rfl, rfl⟩ := Prod.mk.inj h; exact ⟨fun _ => ⟨rfl, rfl⟩, [], by simp⟩
theorem wrs_succ (l : List Fd) (i : Nat) : ((wrs l i).2 ≠ 0 → (wrs l (i + 1)).2 ≠ 0) ∧ ∃ ys, (wrs l (i + 1)).1 = (wrs l i).1 ++ ys := by
  rw [wrs]
  cases h : l[i]? with
  | none => exact ⟨fun h => h, [], by simp⟩
  | some f =>
    obtain ⟨h1, h2⟩ := wrF_err (bs := (wrs l i).1) (e := (wrs l i).2) (q := f.1) (w := f.2.1) (x := f.2.2.1) (t := f.2.2.2.1) (bs' := (wrF (wrs l i).1 (wrs l i).2 f.1 f.2.1 f.2.2.1 f.2.2.2.1).1) (e' := (wrF (wrs l i).1 (wrs l i).2 f.1 f.2.1 f.2.2.1 f.2.2.2.1).2) rfl
    exact ⟨fun h => by dsimp only; rw [(h1 h).1]; exact h, h2⟩
theorem wrs_to (l : List Fd) (i k : Nat) : ((wrs l i).2 ≠ 0 → (wrs l (i + k)).2 ≠ 0) ∧ ∃ ys, (wrs l (i + k)).1 = (wrs l i).1 ++ ys := by
  induction k with
  | zero => exact ⟨fun h => h, [], by simp⟩
  | succ k ih =>
    obtain ⟨a1, y1, a2⟩ := ih
    obtain ⟨b1, y2, b2⟩ := wrs_succ l (i + k)
    exact ⟨fun h => b1 (a1 h), y1 ++ y2, by rw [← Nat.add_assoc, b2, a2, List.append_assoc]⟩
theorem wrs_keep (l : List Fd) : ∀ i, (wrs l i).1.length ≤ 524288 ∧ B01 (wrs l i).1
  | 0 => ⟨by show ([] : List Int).length ≤ 524288; decide, fun b h => by cases h⟩
  | i + 1 => by
    have ih := wrs_keep l i
    rw [wrs]
    cases h : l[i]? with
    | none => exact ih
    | some f => exact wrF_keep (e' := (wrF (wrs l i).1 (wrs l i).2 f.1 f.2.1 f.2.2.1 f.2.2.2.1).2) rfl ih.1 ih.2
/-! ### what was written is read -/
theorem fieldR_back (bs xs ys : List Int) (hb : B01 bs) (w : Nat) (x : Int) (h : bs = xs ++ bitsOf w x ++ ys) (hx : 0 ≤ x ∧ x < 2 ^ w) : fieldR (pkB bs) xs.length 0 true w = (x, xs.length + w, 0) := by
  have hl := congrArg List.length h
  rw [List.length_append, List.length_append, bitsOf_len] at hl
  have hs := pkB_size bs
  unfold fieldR
  rw [if_neg (by simp), if_neg (by simp), if_neg (by omega)]
  rw [show ((w : Int)).toNat = w from rfl, rdN_bits bs hb xs ys w x h, Int.emod_eq_of_lt hx.1 hx.2]
theorem rdB_back (bs xs ys : List Int) (hb : B01 bs) (s : ByteArray) (h : bs = xs ++ strBits s s.size ++ ys) : ∀ n, n ≤ s.size → rdB (pkB bs) xs.length n = (s.data.toList.take n).map fun b => (b.toNat : Int)
  | 0, _ => rfl
  | n + 1, hn => by
    have hsp : ∀ k i, i ≤ k → ∃ zs, strBits s k = strBits s i ++ zs := fun k => by
      induction k with
      | zero => intro i hi; obtain rfl : i = 0 := by omega
                exact ⟨[], rfl⟩
      | succ k ih =>
        intro i hi
        rcases Nat.lt_or_ge k i with h | h
        · obtain rfl : i = k + 1 := by omega
          exact ⟨[], by simp⟩
        · obtain ⟨zs, hz⟩ := ih i h
          exact ⟨zs ++ bitsOf 8 (byteAt s k).toNat, by rw [strBits, hz, List.append_assoc]⟩
    obtain ⟨zs, hz⟩ := hsp s.size (n + 1) hn
    rw [rdB, rdB_back bs xs ys hb s h n (by omega)]
    have hxl : (xs ++ strBits s n).length = xs.length + 8 * n := by rw [List.length_append, strBits_len]
    have := rdN_bits bs hb (xs ++ strBits s n) (zs ++ ys) 8 (byteAt s n).toNat (by rw [h, hz, strBits]; simp [List.append_assoc])
    rw [hxl] at this
    have hlt := (byteAt s n).toNat_lt
    rw [this, Int.emod_eq_of_lt (by omega) (by omega)]
    have hsl : s.data.toList.length = s.size := by rw [Array.length_toList]; rfl
    rw [List.take_add_one, List.map_append, List.getElem?_eq_getElem (by omega)]
    congr 1
    have e : byteAt s n = s.data.toList[n] := by unfold byteAt; rw [List.getD_eq_getElem?_getD, List.getElem?_eq_getElem (by omega)]; rfl
    rw [e]
    rfl
theorem pow_wdth (m : Int) (h : 1 ≤ m ∧ m ≤ 4095) (x : Int) (hx : 0 ≤ x ∧ x ≤ m) : x < 2 ^ (wdth m).toNat := by
  have h1 : wdth m = max 1 (bl m.toNat) := by unfold wdth; rw [if_neg (by omega)]
  have h2 := bl_pos m h.1
  have h3 := (bl_lt m (bl m.toNat) (by omega) (by omega)).1 (Int.le_refl _)
  rw [h1, show max 1 (bl m.toNat) = bl m.toNat by omega]
  omega
theorem txtR_back (bs xs ys : List Int) (hb : B01 bs) (m : Int) (s : ByteArray) (hm : 1 ≤ m ∧ m ≤ 4095) (hs : (s.size : Int) ≤ m) (h : bs = xs ++ bitsOf (wdth m).toNat s.size ++ strBits s s.size ++ ys) :
    txtR (pkB bs) xs.length 0 m = (s, xs.length + (wdth m).toNat + 8 * s.size, 0) := by
  have hw := wdth_bd m (by omega)
  have hl := congrArg List.length h
  rw [List.length_append, List.length_append, List.length_append, bitsOf_len, strBits_len] at hl
  have hsz := pkB_size bs
  have hf := fieldR_back bs xs (strBits s s.size ++ ys) hb (wdth m).toNat s.size (by rw [h]; simp [List.append_assoc]) ⟨by omega, pow_wdth m hm _ ⟨by omega, hs⟩⟩
  rw [show (((wdth m).toNat : Nat) : Int) = wdth m by omega] at hf
  have hd : decide (1 ≤ m ∧ m ≤ 4095) = true := decide_eq_true hm
  unfold txtR
  rw [hd, hf]
  dsimp only
  rw [if_neg (by simp), if_neg (by omega), if_neg (by omega)]
  have hxl : (xs ++ bitsOf (wdth m).toNat s.size).length = xs.length + (wdth m).toNat := by rw [List.length_append, bitsOf_len]
  have hB := rdB_back bs (xs ++ bitsOf (wdth m).toNat s.size) ys hb s h s.size (Nat.le_refl _)
  rw [hxl] at hB
  rw [show ((s.size : Nat) : Int).toNat = s.size from rfl, hB]
  have hsl : s.data.toList.length = s.size := by rw [Array.length_toList]; rfl
  rw [List.take_of_length_le (by omega), List.map_map]
  have e : s.data.toList.map (b8 ∘ fun b => (b.toNat : Int)) = s.data.toList := by
    conv => rhs; rw [← List.map_id s.data.toList]
    apply List.map_congr_left
    intro b _
    have hlt := b.toNat_lt
    apply UInt8.toNat_inj.1
    have := b8_toNat (z := (b.toNat : Int)) (by omega)
    show (b8 (b.toNat : Int)).toNat = (id b).toNat
    have : ((b8 (b.toNat : Int)).toNat : Int) = (b.toNat : Int) := this
    show _ = b.toNat
    omega
  rw [e]
/-- A field that was written is read. -/
theorem back (bs xs xs' ys : List Int) (hb : B01 bs) (q w x : Int) (t : ByteArray) (hst : wrF xs 0 q w x t = (xs', 0)) (h : bs = xs' ++ ys) (hq : 0 ≤ q ∧ q ≤ 3) :
    ∃ w' x' t', rdF (pkB bs) xs.length 0 q w x t = ((w', x', t'), xs'.length, 0) ∧ (q ≤ 1 → x' = x) ∧ (q = 2 → (x' = 1 ↔ ¬ x = 0)) ∧ (q = 3 → t' = t) := by
  unfold wrF at hst
  unfold rdF
  by_cases h0 : q = 0
  · rw [if_pos h0] at hst ⊢
    unfold unsW at hst
    rcases fieldW_cases hst (fun h => by simp at h; omega) with ⟨h1, _⟩ | ⟨_, _, hr, hf, rfl, _⟩
    · exact absurd rfl h1
    · have hw := of_decide_eq_true hr
      have hx := of_decide_eq_true hf
      have := fieldR_back bs xs ys hb w.toNat x h hx
      rw [show ((w.toNat : Nat) : Int) = w by omega] at this
      unfold unsR
      rw [hr, this]
      exact ⟨_, _, _, by rw [List.length_append, bitsOf_len], fun _ => rfl, fun h => by omega, fun h => by omega⟩
  · rw [if_neg h0] at hst ⊢
    by_cases h1 : q = 1
    · rw [if_pos h1] at hst ⊢
      unfold sgnW at hst
      rcases fieldW_cases hst (fun h => by simp at h; omega) with ⟨h1, _⟩ | ⟨_, _, hr, hf, rfl, hle⟩
      · exact absurd rfl h1
      · have hw := of_decide_eq_true hr
        have hx := of_decide_eq_true hf
        have hl := congrArg List.length h
        rw [List.length_append, List.length_append, bitsOf_len] at hl
        have hs := pkB_size bs
        have hp : (0 : Int) < 2 ^ (w - 1).toNat := Int.pow_pos (by decide)
        have hpw : (2 : Int) ^ w.toNat = 2 ^ (w - 1).toNat * 2 := by rw [← Int.pow_succ]; congr 1; omega
        have hf : fieldR (pkB bs) xs.length 0 true w = (x % 2 ^ w.toNat, xs.length + w.toNat, 0) := by
          unfold fieldR
          rw [if_neg (by simp), if_neg (by simp), if_neg (by omega), rdN_bits bs hb xs ys w.toNat x h]
        unfold sgnR
        rw [hr, hf]
        refine ⟨_, _, _, by rw [List.length_append, bitsOf_len], fun _ => ?_, fun h => by omega, fun h => by omega⟩
        dsimp only
        by_cases hx0 : 0 ≤ x
        · rw [Int.emod_eq_of_lt hx0 (by omega), if_neg (by omega)]
        · have e : x % 2 ^ w.toNat = x + 2 ^ w.toNat := by
            rw [← Int.add_emod_right, Int.emod_eq_of_lt (by omega) (by omega)]
          rw [e, if_pos (by omega)]
          omega
    · rw [if_neg h1] at hst ⊢
      by_cases h2 : q = 2
      · rw [if_pos h2] at hst ⊢
        unfold flgW at hst
        rcases fieldW_cases hst (fun _ => by decide) with ⟨h1, _⟩ | ⟨_, _, hr, hf, rfl, _⟩
        · exact absurd rfl h1
        · have hF : fieldR (pkB bs) xs.length 0 true 1 = ((if decide (¬ x = 0) = true then 1 else 0), xs.length + 1, 0) :=
            fieldR_back bs xs ys hb 1 _ h (by split <;> decide)
          unfold flgR
          rw [hF]
          refine ⟨_, _, _, by rw [List.length_append, bitsOf_len]; rfl, fun h => by omega, fun _ => ?_, fun h => by omega⟩
          dsimp only
          by_cases hx : x = 0 <;> simp [hx]
      · rw [if_neg h2] at hst ⊢
        have h3 : q = 3 := by omega
        rw [if_pos h3] at hst ⊢
        rcases txtW_cases hst with ⟨h1, _⟩ | ⟨_, _, hm, hs, rfl, _⟩
        · exact absurd rfl h1
        · have := txtR_back bs xs ys hb w t hm hs h
          rw [this]
          exact ⟨_, _, _, by rw [List.length_append, List.length_append, bitsOf_len, strBits_len], fun h => by omega, fun h => by omega, fun _ => rfl⟩
/-! ### what was read is written -/
theorem rdF_le {d : ByteArray} {a a' : Nat} {e e' q w x w' x' : Int} {t t' : ByteArray} (h : rdF d a e q w x t = ((w', x', t'), a', e')) (ha : a ≤ 8 * d.size) : a' ≤ 8 * d.size := by
  have key : ∀ {a' : Nat} {e' w v : Int} {r : Bool}, (r = true → 0 ≤ w) → fieldR d a e r w = (v, a', e') → a' ≤ 8 * d.size := fun hw h => by
    rcases fieldR_cases h with ⟨_, _, rfl, _⟩ | ⟨_, _, hr, rfl, _, h6⟩
    · exact ha
    · have := hw hr; omega
  unfold rdF at h
  split at h
  · simp only [Prod.mk.injEq] at h
    exact key (v := (unsR d a e w).1) (e' := e') (r := decide (1 ≤ w ∧ w ≤ 63)) (w := w) (fun h => by simp at h; omega) (by unfold unsR at h ⊢; exact Prod.ext rfl h.2)
  · split at h
    · simp only [Prod.mk.injEq] at h
      exact key (v := (fieldR d a e (decide (2 ≤ w ∧ w ≤ 63)) w).1) (e' := e') (r := decide (2 ≤ w ∧ w ≤ 63)) (w := w) (fun h => by simp at h; omega) (by unfold sgnR at h; exact Prod.ext rfl h.2)
    · split at h
      · simp only [Prod.mk.injEq] at h
        exact key (v := (fieldR d a e true 1).1) (e' := e') (r := true) (w := 1) (fun _ => by decide) (by unfold flgR at h; exact Prod.ext rfl h.2)
      · split at h
        · simp only [Prod.mk.injEq] at h
          have h1 := congrArg Prod.fst h.2
          dsimp only at h1
          obtain ⟨v, a1, e1, hf⟩ : ∃ v a1 e1, fieldR d a e (decide (1 ≤ w ∧ w ≤ 4095)) (wdth w) = (v, a1, e1) := ⟨_, _, _, rfl⟩
          have hk := key (fun h => by simp at h; have := wdth_bd w (by omega); omega) hf
          have hcs := fieldR_cases hf
          unfold txtR at h1
          rw [hf] at h1
          dsimp only at h1
          split at h1
          · rw [← h1]; exact hk
          · split at h1
            · rw [← h1]; exact hk
            · split at h1
              · rw [← h1]; exact hk
              · rename_i h3 h4 h5
                rw [← h1]
                dsimp only
                omega
        · simp only [Prod.mk.injEq] at h
          omega
end Go.Proofs.Ytmmaolnjjjdecaa
