/- DigestTexts: texts and digests; the law. -/
import Derived.Test.YtclaiphadaeinaaD14
set_option linter.unusedVariables false
set_option linter.unusedSimpArgs false
namespace Go.Proofs.Ytclaiphadaeinaa
open Go Av
set_option maxRecDepth 100000
theorem prI_even (t : ByteArray) : ∀ i, prI t (2 * i) = (List.range i).map fun j => loD (hiD (byteAt t (2 * j))) (byteAt t (2 * j + 1))
  | 0 => rfl
  | i + 1 => by
    have ih := prI_even t i
    have e1 : prI t (2 * i + 1) = prI t (2 * i) ++ [hiD (byteAt t (2 * i))] := by rw [prI, if_pos (by omega)]
    have hl : (prI t (2 * i)).length = i := by rw [prI_len]; omega
    rw [show 2 * (i + 1) = 2 * i + 1 + 1 by omega, prI, if_neg (by omega), e1, show (2 * i + 1) / 2 = i by omega, List.range_succ, List.map_append, ← ih]
    rw [List.getD_eq_getElem?_getD, List.getElem?_append_right (by omega), hl, Nat.sub_self, List.set_append_right _ _ (by omega), hl, Nat.sub_self]
    rfl
theorem hex_char (s : ByteArray) : ∀ n i, i < n → (hexL s n)[2 * i]? = some (hiB (byteAt s i)) ∧ (hexL s n)[2 * i + 1]? = some (loB (byteAt s i))
  | 0, i, h => by omega
  | n + 1, i, h => by
    have hl := hexL_len s n
    rw [hexL]
    rcases Nat.lt_or_ge i n with hi | hi
    · rw [List.getElem?_append_left (by omega), List.getElem?_append_left (by omega)]
      exact hex_char s n i hi
    · obtain rfl : i = n := by omega
      rw [List.getElem?_append_right (by omega), List.getElem?_append_right (by omega), hl, Nat.sub_self, show 2 * i + 1 - 2 * i = 1 by omega]
      exact ⟨rfl, rfl⟩
theorem byteAt_mk (l : List UInt8) (i : Nat) : byteAt ⟨l.toArray⟩ i = l.getD i 0 := by unfold byteAt; rfl
theorem two_way : ∀ b : Fin 256, okc (hiB (UInt8.ofNat b.val)) ∧ okc (loB (UInt8.ofNat b.val)) ∧ loD (hiD (hiB (UInt8.ofNat b.val))) (loB (UInt8.ofNat b.val)) = b.val := by decide +kernel
theorem two_way' (b : UInt8) : okc (hiB b) ∧ okc (loB b) ∧ loD (hiD (hiB b)) (loB b) = b.toNat := by
  have := two_way ⟨b.toNat, b.toNat_lt⟩
  simpa using this
theorem back_way : ∀ c : Fin 256, okc (UInt8.ofNat c.val) → ∀ e : Fin 256, okc (UInt8.ofNat e.val) → hiB (b8 (loD (hiD (UInt8.ofNat c.val)) (UInt8.ofNat e.val))) = UInt8.ofNat c.val ∧ loB (b8 (loD (hiD (UInt8.ofNat c.val)) (UInt8.ofNat e.val))) = UInt8.ofNat e.val ∧ IntKind.u8.wrap (loD (hiD (UInt8.ofNat c.val)) (UInt8.ofNat e.val)) = loD (hiD (UInt8.ofNat c.val)) (UInt8.ofNat e.val) := by decide +kernel
theorem back_way' (c e : UInt8) (hc : okc c) (he : okc e) : hiB (b8 (loD (hiD c) e)) = c ∧ loB (b8 (loD (hiD c) e)) = e ∧ IntKind.u8.wrap (loD (hiD c) e) = loD (hiD c) e := by
  have := back_way ⟨c.toNat, c.toNat_lt⟩ (by simpa using hc) ⟨e.toNat, e.toNat_lt⟩ (by simpa using he)
  simpa using this
/-- A text is read as what it was written of. -/
theorem text_back (s : ByteArray) (h : s.size = 32) (T : List UInt8) (hT : hexL s 32 = T) : (∀ j, j < 64 → okc (byteAt ⟨T.toArray⟩ j)) ∧ (prI ⟨T.toArray⟩ 64).map (Value.int .u8) = s.data.toList.map u8v := by
  have hc := fun i (hi : i < 32) => hex_char s 32 i hi
  rw [hT] at hc
  have g : ∀ i, i < 32 → byteAt ⟨T.toArray⟩ (2 * i) = hiB (byteAt s i) ∧ byteAt ⟨T.toArray⟩ (2 * i + 1) = loB (byteAt s i) := fun i hi => by
    constructor
    · rw [byteAt_mk, List.getD_eq_getElem?_getD, (hc i hi).1]; rfl
    · rw [byteAt_mk, List.getD_eq_getElem?_getD, (hc i hi).2]; rfl
  have hl : s.data.toList.length = 32 := by rw [Array.length_toList]; exact h
  refine ⟨fun j hj => ?_, ?_⟩
  · rcases Nat.mod_two_eq_zero_or_one j with hm | hm
    · rw [show j = 2 * (j / 2) by omega, (g _ (by omega)).1]
      exact (two_way' _).1
    · rw [show j = 2 * (j / 2) + 1 by omega, (g _ (by omega)).2]
      exact (two_way' _).2.1
  · rw [show 64 = 2 * 32 from rfl, prI_even]
    apply List.ext_getElem?
    intro i
    rcases Nat.lt_or_ge i 32 with hi | hi
    · rw [List.getElem?_map, List.getElem?_map, List.getElem?_map, List.getElem?_range hi, List.getElem?_eq_getElem (by omega)]
      simp only [Option.map_some]
      rw [(g i hi).1, (g i hi).2, (two_way' _).2.2]
      have : byteAt s i = s.data.toList[i] := by unfold byteAt; rw [List.getD_eq_getElem?_getD, List.getElem?_eq_getElem (by omega)]; rfl
      rw [this]
      rfl
    · rw [List.getElem?_eq_none (by simp; omega), List.getElem?_eq_none (by simp; omega)]
/-- What was read is written as the text. -/
theorem read_back (t : ByteArray) (h : t.size = 64) (hok : ∀ j, j < 64 → okc (byteAt t j)) : ∃ T : List UInt8, T.length = 32 ∧ (prI t 64).map (Value.int .u8) = T.map u8v ∧ hexL ⟨T.toArray⟩ 32 = t.data.toList := by
  have hl : t.data.toList.length = 64 := by rw [Array.length_toList]; exact h
  refine ⟨(prI t 64).map b8, by rw [List.length_map, prI_len], ?_, ?_⟩
  · rw [List.map_map]
    apply List.map_congr_left
    intro x hx
    rw [show 64 = 2 * 32 from rfl, prI_even] at hx
    obtain ⟨j, hj, rfl⟩ := List.mem_map.1 hx
    have hj := List.mem_range.1 hj
    have := back_way' _ _ (hok (2 * j) (by omega)) (hok (2 * j + 1) (by omega))
    show _ = u8v (b8 _)
    rw [u8v_b8, this.2.2]
  · apply List.ext_getElem?
    intro i
    rcases Nat.lt_or_ge i 64 with hi | hi
    · have hh := hex_char ⟨((prI t 64).map b8).toArray⟩ 32 (i / 2) (by omega)
      have hb : byteAt ⟨((prI t 64).map b8).toArray⟩ (i / 2) = b8 (loD (hiD (byteAt t (2 * (i / 2)))) (byteAt t (2 * (i / 2) + 1))) := by
        rw [byteAt_mk, show 64 = 2 * 32 from rfl, prI_even, List.getD_eq_getElem?_getD, List.getElem?_map, List.getElem?_map, List.getElem?_range (by omega)]
        rfl
      have hw := back_way' _ _ (hok (2 * (i / 2)) (by omega)) (hok (2 * (i / 2) + 1) (by omega))
      rw [hb, hw.1, hw.2.1] at hh
      have ht : ∀ j, j < 64 → t.data.toList[j]? = some (byteAt t j) := fun j hj => by
        unfold byteAt
        rw [List.getD_eq_getElem?_getD, List.getElem?_eq_getElem (by omega)]
        rfl
      rcases Nat.mod_two_eq_zero_or_one i with hm | hm
      · have := hh.1
        rw [show 2 * (i / 2) = i by omega] at this
        rw [this, ht i hi]
      · have := hh.2
        rw [show 2 * (i / 2) + 1 = i by omega] at this
        rw [this, ht i hi]
    · rw [List.getElem?_eq_none (by rw [hexL_len]; omega), List.getElem?_eq_none (by omega)]
set_option maxHeartbeats 2000000 in
theorem law_texts (s : ByteArray) : ACalls Try.prog 8 [.string s] [] (.bool true) [] := by
  by_cases h32 : s.size = 32
  · obtain ⟨T, hT⟩ : ∃ T, hexL s 32 = T := ⟨_, rfl⟩
    have q1 := ac_Hex s h32 T hT
    obtain ⟨k1, k2⟩ := text_back s h32 T hT
    have hl : (ByteArray.mk T.toArray).size = 64 := by show T.toArray.size = 64; rw [← hT]; simp [hexL_len]
    have q2 := ac_ParseOK ⟨T.toArray⟩ hl k1 _ k2
    rw [show (ByteArray.mk s.data.toList.toArray) = s from rfl] at q2
    have q3 := ac_ParseLen s (by omega)
    refine acalls_pure Try.func8 rfl rfl rfl ?_
    repeat' first
      | refine st ?_
      | refine st_call (ac_awake) ?_
      | refine st_call (q1) ?_
      | refine st_call (q2) ?_
      | refine st_call (q3) ?_
      | refine stm ?_
      | refine run_want rfl rfl ?_
      | refine run_unwant rfl rfl ?_
      | refine run_undef rfl rfl ?_
      | refine run_guard1t rfl rfl (by omega) ?_
      | refine run_guard1f rfl rfl (by omega) ?_
      | refine run_guard0t rfl rfl (by omega) ?_
      | refine run_guard0f rfl rfl (by omega) ?_
      | refine run_guard1 rfl rfl (fun h1 => ?_) (fun h1 => ?_)
      | refine run_guard0 rfl rfl (fun h1 => ?_) (fun h1 => ?_)
      | refine run_guard rfl rfl (fun h1 => ?_) (fun h1 => ?_)
      | refine run_nil ?_
      | refine aw_seq ?_
      | refine aw_region (by kernel_rfl) (Nat.le_of_ble_eq_true rfl) ?_
      | refine aw_block ?_
      | refine aw_cond_t rfl ?_
      | refine aw_cond_f rfl ?_
      | refine aw_cond_tp rfl (by omega) ?_
      | refine aw_cond_fp rfl (by omega) ?_
      | refine aw_cond1 rfl (fun h1 => ?_) (fun h1 => ?_)
      | refine aw_cond rfl (fun h1 => ?_) (fun h1 => ?_)
      | refine aw_skip ?_
      | refine aw_exit ?_
      | refine aw_ret ?_
      | refine pp_ret ?_
      | refine pp_normal ?_
    all_goals (first | rfl | (exfalso; omega) | exact absurd rfl h1 | simp [retOf])
  · have q1 := ac_HexBad s h32
    by_cases h64 : s.size = 64
    · by_cases hok : ∀ j, j < 64 → okc (byteAt s j)
      · obtain ⟨T, t1, t2, t3⟩ := read_back s h64 hok
        have q2 := ac_ParseOK s h64 hok T t2
        have hl : (ByteArray.mk T.toArray).size = 32 := t1
        have q3 := ac_Hex ⟨T.toArray⟩ hl _ t3
        rw [show (ByteArray.mk s.data.toList.toArray) = s from rfl] at q3
        refine acalls_pure Try.func8 rfl rfl rfl ?_
        repeat' first
          | refine st ?_
          | refine st_call (ac_awake) ?_
          | refine st_call (q1) ?_
          | refine st_call (q2) ?_
          | refine st_call (q3) ?_
          | refine stm ?_
          | refine run_want rfl rfl ?_
          | refine run_unwant rfl rfl ?_
          | refine run_undef rfl rfl ?_
          | refine run_guard1t rfl rfl (by omega) ?_
          | refine run_guard1f rfl rfl (by omega) ?_
          | refine run_guard0t rfl rfl (by omega) ?_
          | refine run_guard0f rfl rfl (by omega) ?_
          | refine run_guard1 rfl rfl (fun h1 => ?_) (fun h1 => ?_)
          | refine run_guard0 rfl rfl (fun h1 => ?_) (fun h1 => ?_)
          | refine run_guard rfl rfl (fun h1 => ?_) (fun h1 => ?_)
          | refine run_nil ?_
          | refine aw_seq ?_
          | refine aw_region (by kernel_rfl) (Nat.le_of_ble_eq_true rfl) ?_
          | refine aw_block ?_
          | refine aw_cond_t rfl ?_
          | refine aw_cond_f rfl ?_
          | refine aw_cond_tp rfl (by omega) ?_
          | refine aw_cond_fp rfl (by omega) ?_
          | refine aw_cond1 rfl (fun h1 => ?_) (fun h1 => ?_)
          | refine aw_cond rfl (fun h1 => ?_) (fun h1 => ?_)
          | refine aw_skip ?_
          | refine aw_exit ?_
          | refine aw_ret ?_
          | refine pp_ret ?_
          | refine pp_normal ?_
        all_goals (first | rfl | (exfalso; omega) | exact absurd rfl h1 | simp [retOf, hl])
      · obtain ⟨b, hb, hok', hbad⟩ : ∃ b, b < 64 ∧ (∀ j, j < b → okc (byteAt s j)) ∧ ¬ okc (byteAt s b) := by
          have key : ∀ n, n ≤ 64 → (∀ j, j < n → okc (byteAt s j)) ∨ ∃ b, b < n ∧ (∀ j, j < b → okc (byteAt s j)) ∧ ¬ okc (byteAt s b) := fun n => by
            induction n with
            | zero => intro _; exact .inl fun j hj => by omega
            | succ n ih =>
              intro hn
              rcases ih (by omega) with h | ⟨b, hb, h2, h3⟩
              · by_cases hc : okc (byteAt s n)
                · exact .inl fun j hj => by
                    rcases Nat.lt_or_ge j n with h' | h'
                    · exact h j h'
                    · obtain rfl : j = n := by omega
                      exact hc
                · exact .inr ⟨n, by omega, h, hc⟩
              · exact .inr ⟨b, by omega, h2, h3⟩
          rcases key 64 (Nat.le_refl _) with h | h
          · exact absurd h hok
          · exact h
        have q2 := ac_ParseBad s h64 b hb hok' hbad
        refine acalls_pure Try.func8 rfl rfl rfl ?_
        repeat' first
          | refine st ?_
          | refine st_call (ac_awake) ?_
          | refine st_call (q1) ?_
          | refine st_call (q2) ?_
          | refine stm ?_
          | refine run_want rfl rfl ?_
          | refine run_unwant rfl rfl ?_
          | refine run_undef rfl rfl ?_
          | refine run_guard1t rfl rfl (by omega) ?_
          | refine run_guard1f rfl rfl (by omega) ?_
          | refine run_guard0t rfl rfl (by omega) ?_
          | refine run_guard0f rfl rfl (by omega) ?_
          | refine run_guard1 rfl rfl (fun h1 => ?_) (fun h1 => ?_)
          | refine run_guard0 rfl rfl (fun h1 => ?_) (fun h1 => ?_)
          | refine run_guard rfl rfl (fun h1 => ?_) (fun h1 => ?_)
          | refine run_nil ?_
          | refine aw_seq ?_
          | refine aw_region (by kernel_rfl) (Nat.le_of_ble_eq_true rfl) ?_
          | refine aw_block ?_
          | refine aw_cond_t rfl ?_
          | refine aw_cond_f rfl ?_
          | refine aw_cond_tp rfl (by omega) ?_
          | refine aw_cond_fp rfl (by omega) ?_
          | refine aw_cond1 rfl (fun h1 => ?_) (fun h1 => ?_)
          | refine aw_cond rfl (fun h1 => ?_) (fun h1 => ?_)
          | refine aw_skip ?_
          | refine aw_exit ?_
          | refine aw_ret ?_
          | refine pp_ret ?_
          | refine pp_normal ?_
        all_goals (first | rfl | (exfalso; omega) | exact absurd rfl h1 | simp [retOf])
    · have q2 := ac_ParseLen s h64
      refine acalls_pure Try.func8 rfl rfl rfl ?_
      repeat' first
        | refine st ?_
        | refine st_call (ac_awake) ?_
        | refine st_call (q1) ?_
        | refine st_call (q2) ?_
        | refine stm ?_
        | refine run_want rfl rfl ?_
        | refine run_unwant rfl rfl ?_
        | refine run_undef rfl rfl ?_
        | refine run_guard1t rfl rfl (by omega) ?_
        | refine run_guard1f rfl rfl (by omega) ?_
        | refine run_guard0t rfl rfl (by omega) ?_
        | refine run_guard0f rfl rfl (by omega) ?_
        | refine run_guard1 rfl rfl (fun h1 => ?_) (fun h1 => ?_)
        | refine run_guard0 rfl rfl (fun h1 => ?_) (fun h1 => ?_)
        | refine run_guard rfl rfl (fun h1 => ?_) (fun h1 => ?_)
        | refine run_nil ?_
        | refine aw_seq ?_
        | refine aw_region (by kernel_rfl) (Nat.le_of_ble_eq_true rfl) ?_
        | refine aw_block ?_
        | refine aw_cond_t rfl ?_
        | refine aw_cond_f rfl ?_
        | refine aw_cond_tp rfl (by omega) ?_
        | refine aw_cond_fp rfl (by omega) ?_
        | refine aw_cond1 rfl (fun h1 => ?_) (fun h1 => ?_)
        | refine aw_cond rfl (fun h1 => ?_) (fun h1 => ?_)
        | refine aw_skip ?_
        | refine aw_exit ?_
        | refine aw_ret ?_
        | refine pp_ret ?_
        | refine pp_normal ?_
      all_goals (first | rfl | (exfalso; omega) | exact absurd rfl h1 | simp [retOf])
end Go.Proofs.Ytclaiphadaeinaa
