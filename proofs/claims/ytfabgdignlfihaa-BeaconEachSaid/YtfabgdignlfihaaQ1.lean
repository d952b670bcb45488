/- Tables of shared cells: plain. -/
import Derived.Test.YtfabgdignlfihaaI6
set_option linter.unusedVariables false
set_option linter.unusedSimpArgs false
namespace Go.Proofs.Ytfabgdignlfihaa
open Go Av
set_option maxRecDepth 20000
/-- A shared cell. -/
def shc (s : Int) : Ce := (s, 0, 3, false, -1, -1, ())
/-- There is a cell of a slot and a kind. -/
def takB (C : List Ce) (s k : Int) : Bool := decide (∃ c ∈ C, c.1 = s ∧ c.2.2.1 = k)
/-- Cells with a further one in its place. -/
def putC (c : Ce) : List Ce → List Ce
  | [] => [c]
  | a :: C => if lessC a c = true then a :: putC c C else c :: a :: C
theorem putC_at {c : Ce} : ∀ {C : List Ce} {i : Nat}, i ≤ C.length → (∀ (j : Nat), j < i → ∀ a, C[j]? = some a → lessC a c = true) → (∀ a, C[i]? = some a → lessC a c = false) → putC c C = C.take i ++ c :: C.drop i
  | [], 0, _, _, _ => rfl
  | [], i + 1, h, _, _ => absurd h (by simp)
  | a :: C, 0, _, _, h => by
    rw [putC, if_neg (by rw [h a rfl]; simp)]
    rfl
  | a :: C, i + 1, hi, h1, h2 => by
    rw [putC, if_pos (h1 0 (by omega) a rfl), putC_at (i := i) (by simpa using hi) (fun j hj b hb => h1 (j + 1) (by omega) b (by simpa using hb)) (fun b hb => h2 b (by simpa using hb))]
    rfl
theorem mem_putC {c a : Ce} : ∀ {C : List Ce}, a ∈ putC c C ↔ a = c ∨ a ∈ C
  | [] => by simp [putC]
  | b :: C => by
    rw [putC]
    split
    · rw [List.mem_cons, mem_putC, List.mem_cons]
      constructor
      · rintro (h | h | h)
        · exact .inr (.inl h)
        · exact .inl h
        · exact .inr (.inr h)
      · rintro (h | h | h)
        · exact .inr (.inl h)
        · exact .inl h
        · exact .inr (.inr h)
    · simp
theorem putC_len {c : Ce} : ∀ {C : List Ce}, (putC c C).length = C.length + 1
  | [] => rfl
  | b :: C => by
    rw [putC]
    split
    · rw [List.length_cons, putC_len]; rfl
    · rfl
structure ShT (C : List Ce) : Prop where
  pw : C.Pairwise (fun a b => lessC a b = true)
  cells : ∀ c ∈ C, c = shc c.1 ∧ 0 ≤ c.1 ∧ c.1 < 12
theorem less_sh (a b : Int) : lessC (shc a) (shc b) = decide (a < b) := decide_eq_decide.2 ⟨fun h => by rcases h with h | h; exact h; exact absurd h.2 (show ¬ ((3 : Int) < 3) by decide), fun h => .inl h⟩
theorem ShT.tail {c : Ce} {C : List Ce} (h : ShT (c :: C)) : ShT C ∧ ∀ a ∈ C, c.1 < a.1 := by
  obtain ⟨h1, h2⟩ := h
  rw [List.pairwise_cons] at h1
  refine ⟨⟨h1.2, fun a ha => h2 a (List.mem_cons_of_mem _ ha)⟩, fun a ha => ?_⟩
  have e1 := (h2 c (List.mem_cons_self ..)).1
  have e2 := (h2 a (List.mem_cons_of_mem _ ha)).1
  have := h1.1 a ha
  rw [e1, e2, less_sh] at this
  exact of_decide_eq_true this
theorem ShT.put : ∀ {C : List Ce} {s : Int}, ShT C → 0 ≤ s ∧ s < 12 → (∀ c ∈ C, c.1 ≠ s) → ShT (putC (shc s) C)
  | [], s, _, hs, _ => ⟨by rw [putC]; simp, fun c hc => by
      rw [putC, List.mem_singleton] at hc
      subst hc
      exact ⟨rfl, hs⟩⟩
  | a :: C, s, h, hs, ht => by
    obtain ⟨h1, h2⟩ := h.tail
    have ih := h1.put hs fun c hc => ht c (List.mem_cons_of_mem _ hc)
    have ea := h.cells a (List.mem_cons_self ..)
    have hne := ht a (List.mem_cons_self ..)
    refine ⟨?_, fun c hc => ?_⟩
    · rw [putC]
      by_cases hl : lessC a (shc s) = true
      · rw [if_pos hl, List.pairwise_cons]
        refine ⟨fun b hb => ?_, ih.pw⟩
        rcases mem_putC.1 hb with rfl | hb
        · exact hl
        · exact (List.pairwise_cons.1 h.pw).1 b hb
      · rw [if_neg hl, List.pairwise_cons]
        refine ⟨fun b hb => ?_, h.pw⟩
        have hsa : s < a.1 := by
          rw [ea.1, less_sh] at hl
          have : ¬ a.1 < s := fun h => hl (decide_eq_true h)
          omega
        have hb1 : s < b.1 ∧ b = shc b.1 := by
          rcases List.mem_cons.1 hb with rfl | hb
          · exact ⟨hsa, ea.1⟩
          · have := h2 b hb
            exact ⟨by omega, (h.cells b (List.mem_cons_of_mem _ hb)).1⟩
        rw [hb1.2, less_sh]
        exact decide_eq_true hb1.1
    · rcases mem_putC.1 hc with rfl | hc
      · exact ⟨rfl, hs⟩
      · exact h.cells c hc
theorem form_sh (node s : Int) (h : 0 ≤ s ∧ s < 12) : formE node 12 (shc s) = 0 := by
  unfold formE shc
  dsimp only
  rw [if_neg (by omega), if_neg (by simp), if_neg (by omega)]
theorem ceI_of {node len : Int} {C : List Ce} (h1 : C.Pairwise (fun a b => lessC a b = true)) (h2 : ∀ c ∈ C, formE node len c = 0) : ∀ i, i ≤ C.length → ceI node len C i = 0
  | 0, _ => rfl
  | i + 1, hi => by
    obtain ⟨c, hc⟩ : ∃ c, C[i]? = some c := ⟨_, List.getElem?_eq_getElem (by omega)⟩
    rw [ceI_at hc (ceI_of h1 h2 i (by omega)), if_neg (by rw [h2 c (List.mem_of_getElem? hc)]; simp), if_neg]
    rintro ⟨h0, hl⟩
    obtain ⟨b, hb⟩ : ∃ c, C[i - 1]? = some c := ⟨_, List.getElem?_eq_getElem (by omega)⟩
    rw [List.getD_eq_getElem?_getD, hb] at hl
    have e1 := (List.getElem?_eq_some_iff.1 hb)
    have e2 := (List.getElem?_eq_some_iff.1 hc)
    have := List.pairwise_iff_getElem.1 h1 (i - 1) i e1.1 e2.1 (by omega)
    rw [e1.2, e2.2] at this
    rw [show (some b).getD (0, 0, 0, false, 0, 0, ()) = b from rfl, this] at hl
    cases hl
theorem ShT.chk {C : List Ce} {node : Int} (h : ShT C) (hn : 0 ≤ node ∧ node < 32) (hl : C.length ≤ 512) : chkT node 12 C = 0 := by
  unfold chkT
  rw [if_neg (by omega), if_neg (by omega)]
  exact ceI_of h.pw (fun c hc => by rw [(h.cells c hc).1]; exact form_sh node _ (h.cells c hc).2) _ (Nat.le_refl _)
theorem ShT.nil : ShT [] := ⟨List.Pairwise.nil, fun c h => by simp at h⟩
theorem tak_false {C : List Ce} {s : Int} (h : takB C s 3 = false) (hC : ShT C) : ∀ c ∈ C, c.1 ≠ s := fun c hc e => of_decide_eq_false h ⟨c, hc, e, by rw [(hC.cells c hc).1]; rfl⟩
theorem takN {C : List Ce} {s k : Int} (h0 : ∀ (j : Nat), j < C.length → ∀ c, C[j]? = some c → decide (c.1 = s ∧ c.2.2.1 = k) = false) : takB C s k = false := decide_eq_false fun ⟨c, hc, h⟩ => by
  obtain ⟨j, hj⟩ := List.mem_iff_getElem?.1 hc
  exact of_decide_eq_false (h0 j (List.getElem?_eq_some_iff.1 hj).1 c hj) h
theorem takY {C : List Ce} {s k : Int} {j : Nat} {c : Ce} (hj : C[j]? = some c) (h : c.1 = s ∧ c.2.2.1 = k) : takB C s k = true := decide_eq_true ⟨c, List.mem_of_getElem? hj, h⟩
theorem tcC_len (L : List Ce) : (L.flatMap tcC).length = L.length * 6 := by
  induction L with
  | nil => rfl
  | cons p L ih => rw [List.flatMap_cons, List.length_append, ih, List.length_cons, show (tcC p).length = 6 from rfl]; omega
theorem tcC_drop (C : List Ce) (i : Nat) : (C.flatMap tcC).drop (i * 6) = (C.drop i).flatMap tcC := by
  induction C generalizing i with
  | nil => simp
  | cons p C ih =>
    cases i with
    | zero => simp
    | succ i =>
      rw [List.drop_succ_cons, List.flatMap_cons, ← ih i, List.drop_append, show (tcC p).length = 6 from rfl, List.drop_eq_nil_of_le (show (tcC p).length ≤ (i + 1) * 6 by show 6 ≤ _; omega), List.nil_append]
      congr 1
      omega
theorem tcC_snoc {C : List Ce} {i : Nat} {c : Ce} (h : C[i]? = some c) : (C.take i).flatMap tcC ++ tcC c = (C.take (i + 1)).flatMap tcC := by
  rw [List.take_add_one, h, List.flatMap_append]
  simp
theorem tcC_src {C : List Ce} {n i : Nat} (hn : C.length = n) : ((C.flatMap tcC).drop (0 + ((i : Int)).toNat * 6)).take ((n - ((i : Int)).toNat) * 6) = (C.drop i).flatMap tcC := by
  rw [Nat.zero_add, show ((i : Int)).toNat = i from rfl, tcC_drop, List.take_of_length_le (by rw [tcC_len, List.length_drop]; omega)]
theorem tcC_one (S : List Ce) : (S.flatMap tcC).all (·.oneCell') = true := by
  induction S with
  | nil => rfl
  | cons p S ih => rw [List.flatMap_cons, List.all_append, ih]; rfl
theorem take_full' {α : Type} {l : List α} {k : Nat} (h : l.length ≤ k) : (l.drop 0).take k = l := by rw [List.drop_zero, List.take_of_length_le h]
end Go.Proofs.Ytfabgdignlfihaa
