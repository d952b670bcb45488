/- Tables of shared cells: their turns. -/
import Derived.Test.YtfabgdignlfihaaQ1
import Derived.Test.YtfabgdignlfihaaK7
set_option linter.unusedVariables false
set_option linter.unusedSimpArgs false
namespace Go.Proofs.Ytfabgdignlfihaa
open Go Av
set_option maxRecDepth 20000
/-- How many shared slots lie before a slot. -/
def Gs (C : List Ce) (s : Int) : Int := s / 12 * shN C + shB (s % 12) C
theorem shB_succ {q : Int} : ∀ {C : List Ce}, ShT C → shB (q + 1) C = shB q C + (if shH q C = true then 1 else 0)
  | [], _ => rfl
  | c :: C, h => by
    obtain ⟨h1, h2⟩ := h.tail
    have hk : c.2.2.1 = 3 := by rw [(h.cells c (List.mem_cons_self ..)).1]; rfl
    have ih := shB_succ (q := q) h1
    rw [shB, shB, shH, ih]
    by_cases hq : c.1 = q
    · have hf : shH q C = false := by
        rcases hb : shH q C with _ | _
        · rfl
        · exfalso
          have : ∀ {D : List Ce}, (∀ a ∈ D, q < a.1) → shH q D = false := fun {D} => by
            induction D with
            | nil => intro _; rfl
            | cons d D ih =>
              intro hd
              have h0 := hd d (List.mem_cons_self ..)
              rw [shH, ih fun a ha => hd a (List.mem_cons_of_mem _ ha), decide_eq_false (by omega)]
              rfl
          rw [this fun a ha => by have := h2 a ha; omega] at hb
          cases hb
      rw [hf, decide_eq_true ⟨hk, hq⟩, if_pos (show c.2.2.1 = 3 ∧ c.1 < q + 1 from ⟨hk, by omega⟩), if_neg (show ¬ (c.2.2.1 = 3 ∧ c.1 < q) from fun h => absurd h.2 (by omega)), if_neg (show ¬ (false = true) by simp), if_pos (show (true || false) = true from rfl)]
      omega
    · rw [decide_eq_false (fun h => hq h.2), Bool.false_or]
      by_cases hl : c.1 < q
      · rw [if_pos (show c.2.2.1 = 3 ∧ c.1 < q + 1 from ⟨hk, by omega⟩), if_pos (show c.2.2.1 = 3 ∧ c.1 < q from ⟨hk, hl⟩)]; omega
      · rw [if_neg (show ¬ (c.2.2.1 = 3 ∧ c.1 < q + 1) from fun h => absurd h.2 (by omega)), if_neg (show ¬ (c.2.2.1 = 3 ∧ c.1 < q) from fun h => absurd h.2 hl)]; omega
theorem shB_zero {C : List Ce} (h : ShT C) : shB 0 C = 0 := shB_none fun c hc => (h.cells c hc).2.1
theorem shB_top : ∀ {C : List Ce}, ShT C → shB 12 C = shN C
  | [], _ => rfl
  | c :: C, h => by
    have hc := h.cells c (List.mem_cons_self ..)
    have hk : c.2.2.1 = 3 := by rw [hc.1]; rfl
    rw [shB, shN, shB_top h.tail.1, if_pos ⟨hk, by omega⟩, if_pos hk]
theorem shN_len : ∀ {C : List Ce}, ShT C → shN C = C.length
  | [], _ => rfl
  | c :: C, h => by
    have hk : c.2.2.1 = 3 := by rw [(h.cells c (List.mem_cons_self ..)).1]; rfl
    rw [shN, if_pos hk, shN_len h.tail.1, List.length_cons]
    omega
theorem Gs_succ {C : List Ce} (h : ShT C) (s : Int) : Gs C (s + 1) = Gs C s + (if shH (s % 12) C = true then 1 else 0) := by
  unfold Gs
  have hs := shB_succ (q := s % 12) h
  by_cases hl : s % 12 = 11
  · have e1 : (s + 1) / 12 = s / 12 + 1 := by omega
    have e2 : (s + 1) % 12 = 0 := by omega
    rw [e1, e2, shB_zero h, Int.add_mul]
    rw [hl] at hs ⊢
    rw [show (11 : Int) + 1 = 12 from rfl, shB_top h] at hs
    omega
  · have e1 : (s + 1) / 12 = s / 12 := by omega
    have e2 : (s + 1) % 12 = s % 12 + 1 := by omega
    rw [e1, e2, hs]
    omega
theorem Gs_add {C : List Ce} (h : ShT C) (s : Int) : ∀ d : Nat, Gs C s ≤ Gs C (s + d) ∧ ∀ k, Gs C s ≤ k → k < Gs C (s + d) → ∃ i : Nat, i < d ∧ Gs C (s + i) = k ∧ shH ((s + i) % 12) C = true
  | 0 => ⟨by simp, fun k h1 h2 => by simp at h2; omega⟩
  | d + 1 => by
    obtain ⟨h1, h2⟩ := Gs_add h s d
    have e := Gs_succ h (s + d)
    rw [show s + ((d + 1 : Nat) : Int) = s + d + 1 by omega]
    refine ⟨by split at e <;> omega, fun k k1 k2 => ?_⟩
    by_cases hk : k < Gs C (s + d)
    · obtain ⟨i, hi, h3⟩ := h2 k k1 hk
      exact ⟨i, by omega, h3⟩
    · by_cases hb : shH ((s + d) % 12) C = true
      · rw [if_pos hb] at e
        exact ⟨d, by omega, by omega, hb⟩
      · rw [if_neg hb] at e
        omega
theorem Gs_mono {C : List Ce} (h : ShT C) {s t : Int} (hst : s ≤ t) : Gs C s ≤ Gs C t := by
  have := (Gs_add h s (t - s).toNat).1
  rwa [show s + ((t - s).toNat : Int) = t by omega] at this
theorem Gs_frame {C : List Ce} (s t : Int) : Gs C (s + 12 * t) = Gs C s + t * shN C := by
  unfold Gs
  rw [show (s + 12 * t) / 12 = s / 12 + t by omega, show (s + 12 * t) % 12 = s % 12 by omega, Int.add_mul]
  omega
theorem turn_sh {C : List Ce} {node s t : Int} (h : ShT C) (hn : 0 ≤ node ∧ node < 32) (hl : C.length ≤ 512) (ht : 1 ≤ t ∧ t ≤ 32) (hs : 0 ≤ s) : turnR node 12 C s t = if shH (s % 12) C = true then (Gs C s % t, true) else (0, false) := by
  unfold turnR
  rw [if_neg (by rintro (h1 | h1 | h1 | h1); exact h1 (h.chk hn hl); omega; omega; omega)]
  obtain ⟨h1, h2⟩ := bef_sh (q := s % 12) h.pw
  by_cases hb : shH (s % 12) C = true
  · rw [if_pos (by rw [h1]; exact hb), if_pos hb, h2 (by rw [h1]; exact hb)]
    unfold Gs
    rw [Int.add_emod, Int.mul_emod (s / 12 % t), Int.emod_emod_of_dvd _ (Int.dvd_refl t), ← Int.mul_emod, ← Int.add_emod]
  · rw [if_neg (by rw [h1]; exact hb), if_neg hb]
theorem atC_sh {C : List Ce} {q : Int} (h : ShT C) : (shH q C = true ∧ atC C q = some (shc q)) ∨ (shH q C = false ∧ atC C q = none) := by
  rcases hat : atC C q with _ | c
  · right
    refine ⟨?_, rfl⟩
    have h0 := List.find?_eq_none.1 hat
    have : ∀ {D : List Ce}, (∀ a ∈ D, ¬ (decide (a.1 = q) = true)) → shH q D = false := fun {D} => by
      induction D with
      | nil => intro _; rfl
      | cons d D ih =>
        intro hd
        have h0 := hd d (List.mem_cons_self ..)
        rw [shH, ih fun a ha => hd a (List.mem_cons_of_mem _ ha), decide_eq_false (fun h => h0 (decide_eq_true h.2))]
        rfl
    exact this h0
  · left
    obtain ⟨hc, hq⟩ := atC_mem hat
    have e := (h.cells c hc).1
    refine ⟨shH_of hc (by rw [e]; rfl) hq, ?_⟩
    rw [← hq, ← e]
theorem due_sh {C : List Ce} {node s t : Int} (h : ShT C) (hn : 0 ≤ node ∧ node < 32) (hl : C.length ≤ 512) (ht : 1 ≤ t ∧ t ≤ 32) (hs : 0 ≤ s) : dueB node 12 C s t = (shH (s % 12) C && decide (Gs C s % t = node % t)) := by
  unfold dueB atR
  rw [if_neg (by rintro (h1 | h1); exact h1 (h.chk hn hl); omega), turn_sh h hn hl ht hs]
  rcases atC_sh (q := s % 12) h with ⟨h1, h2⟩ | ⟨h1, h2⟩
  · rw [h1, h2, if_pos rfl]
    rfl
  · rw [h1, h2]
    rfl
theorem due_same {C : List Ce} {a b s t : Int} (h1 : dueB a 12 C s t = true) (h2 : dueB b 12 C s t = true) : a % t = b % t := by
  unfold dueB at h1 h2
  have e : ∀ n, atR n 12 C s ≠ none → chkT n 12 C = 0 := fun n hne => Decidable.byContradiction fun h => hne (by unfold atR; rw [if_pos (.inl h)])
  have ha : chkT a 12 C = 0 := e a fun h => by rw [h] at h1; cases h1
  have hb : chkT b 12 C = 0 := e b fun h => by rw [h] at h2; cases h2
  have et : turnR a 12 C s t = turnR b 12 C s t := by unfold turnR; rw [ha, hb]
  have ea : atR a 12 C s = atR b 12 C s := by unfold atR; rw [ha, hb]
  rw [et, ea] at h1
  cases hx : atR b 12 C s with
  | none => rw [hx] at h2; cases h2
  | some c =>
    rw [hx] at h1 h2
    simp only [Bool.and_eq_true, decide_eq_true_eq] at h1 h2
    rw [← h1.2.2, h2.2.2]
theorem mod_uniq {k k' n r : Int} (hn : 1 ≤ n) (h1 : k % n = r) (h2 : k' % n = r) (h : k < k') : n ≤ k' - k := by
  have e : (k' - k) % n = 0 := by rw [Int.sub_emod, h1, h2, Int.sub_self, Int.zero_emod]
  have := Int.emod_nonneg (k' - k) (show n ≠ 0 by omega)
  rcases Int.lt_or_le (k' - k) n with hl | hl
  · rw [Int.emod_eq_of_lt (by omega) hl] at e
    omega
  · exact hl
theorem mod_ex (g n r : Int) (hn : 1 ≤ n) (hr : 0 ≤ r ∧ r < n) : ∃ k, g ≤ k ∧ k < g + n ∧ k % n = r := by
  refine ⟨g + (r - g) % n, ?_, ?_, ?_⟩
  · have := Int.emod_nonneg (r - g) (show n ≠ 0 by omega); omega
  · have := Int.emod_lt_of_pos (r - g) (show 0 < n by omega); omega
  · rw [Int.add_emod, Int.emod_emod_of_dvd _ (Int.dvd_refl n), ← Int.add_emod, show g + (r - g) = r by omega, Int.emod_eq_of_lt hr.1 hr.2]
/-- In a span of slots with as many shared ones as there are turns a node is due. -/
theorem due_ex {C : List Ce} {node n s t : Int} (h : ShT C) (hn : 0 ≤ node ∧ node < 32) (hl : C.length ≤ 512) (ht : 1 ≤ n ∧ n ≤ 32) (hs : 0 ≤ s) (hst : s ≤ t) (hg : Gs C s + n ≤ Gs C t) : ∃ i : Nat, s + i < t ∧ dueB node 12 C (s + i) n = true := by
  obtain ⟨k, k1, k2, k3⟩ := mod_ex (Gs C s) n (node % n) ht.1 ⟨Int.emod_nonneg _ (by omega), Int.emod_lt_of_pos _ (by omega)⟩
  have := (Gs_add h s (t - s).toNat).2 k k1 (by rw [show s + ((t - s).toNat : Int) = t by omega]; omega)
  obtain ⟨i, hi, e1, e2⟩ := this
  refine ⟨i, by omega, ?_⟩
  rw [due_sh h hn hl ht (by omega), e2, e1, k3]
  simp
theorem next_some {C : List Ce} {node n s : Int} (h : ShT C) (hn : 0 ≤ node ∧ node < 32) (hl : C.length ≤ 512) (ht : 1 ≤ n ∧ n ≤ 32) (hs : 0 ≤ s) (h0 : C ≠ []) : ∃ i : Nat, nextR node 12 C s n = (s + i, true) ∧ s + i < s + 12 * n ∧ dueB node 12 C (s + i) n = true ∧ ∀ j : Nat, j < i → dueB node 12 C (s + j) n = false := by
  have hlen : 1 ≤ shN C := by
    rw [shN_len h]
    have : C.length ≠ 0 := fun e => h0 (List.eq_nil_of_length_eq_zero e)
    omega
  have hgn : Gs C s + n ≤ Gs C (s + 12 * n) := by
    rw [Gs_frame]
    have := Int.mul_le_mul_of_nonneg_left hlen (show 0 ≤ n by omega)
    omega
  obtain ⟨i0, hi0, hd0⟩ := due_ex h hn hl ht hs (by omega) hgn
  unfold nextR
  rw [if_neg (by rintro (h1 | h1 | h1 | h1); exact h1 (h.chk hn hl); omega; omega; omega)]
  have : ∃ i, i < (12 * n).toNat ∧ dueB node 12 C (s + (i : Nat)) n = true ∧ ∀ j : Nat, j < i → dueB node 12 C (s + j) n = false := by
    have key : ∀ m : Nat, (∀ j : Nat, j < m → dueB node 12 C (s + j) n = false) ∨ ∃ i, i < m ∧ dueB node 12 C (s + (i : Nat)) n = true ∧ ∀ j : Nat, j < i → dueB node 12 C (s + j) n = false := fun m => by
      induction m with
      | zero => exact .inl fun j hj => absurd hj (Nat.not_lt_zero _)
      | succ m ih =>
        rcases ih with ih | ⟨i, h1, h2⟩
        · cases hd : dueB node 12 C (s + (m : Nat)) n
          · exact .inl fun j hj => by
              rcases Nat.lt_or_ge j m with h | h
              · exact ih j h
              · obtain rfl : j = m := by omega
                exact hd
          · exact .inr ⟨m, by omega, hd, ih⟩
        · exact .inr ⟨i, by omega, h2⟩
    rcases key (12 * n).toNat with h1 | h1
    · rw [h1 i0 (by omega)] at hd0; cases hd0
    · exact h1
  obtain ⟨i, hi, h1, h2⟩ := this
  refine ⟨i, ?_, by omega, h1, h2⟩
  rw [firstB_some hi h1 h2]
theorem next_none {node n s : Int} (ht : 1 ≤ n) (hs : 0 ≤ s) (hn : 0 ≤ node ∧ node < 32) (ht2 : n ≤ 32) : nextR node 12 [] s n = (0, false) := by
  unfold nextR
  rw [if_neg (by rintro (h1 | h1 | h1 | h1); exact h1 (ShT.nil.chk hn (by decide)); omega; omega; omega), firstB_none fun j hj => by
    rw [due_sh ShT.nil hn (by decide) ⟨ht, ht2⟩ (by omega)]
    rfl]
end Go.Proofs.Ytfabgdignlfihaa
