/- Lists of places: plain. -/
import Derived.Test.YtjamfmnlhiolkaaG2
import Derived.Test.YtjamfmnlhiolkaaVI
set_option linter.unusedVariables false
set_option linter.unusedSimpArgs false
namespace Go.Proofs.Ytjamfmnlhiolkaa
open Go Av
set_option maxRecDepth 20000
/-- The first place of a list where q holds, or -1. -/
def fidx {α : Type} (q : α → Bool) (l : List α) : Int := if l.findIdx q < l.length then (l.findIdx q : Int) else -1
theorem fidx_at {α : Type} {q : α → Bool} {l : List α} {i : Nat} {x : α} (h : l[i]? = some x) (hq : q x = true) (h0 : ∀ j, j < i → ∀ y, l[j]? = some y → q y = false) : fidx q l = i := by
  obtain ⟨hi, hx⟩ := List.getElem?_eq_some_iff.1 h
  have : l.findIdx q = i := (List.findIdx_eq hi).2 ⟨by rw [hx]; exact hq, fun j hj => h0 j hj _ (List.getElem?_eq_getElem (by omega))⟩
  unfold fidx
  rw [this, if_pos hi]
theorem fidx_no {α : Type} {q : α → Bool} {l : List α} (h0 : ∀ j, j < l.length → ∀ y, l[j]? = some y → q y = false) : fidx q l = -1 := by
  have : l.findIdx q = l.length := List.findIdx_eq_length.2 fun x hx => by
    obtain ⟨j, hj⟩ := List.mem_iff_getElem?.1 hx
    exact h0 j (List.getElem?_eq_some_iff.1 hj).1 x hj
  unfold fidx
  rw [this, if_neg (by omega)]
theorem fidx_pos {α : Type} {q : α → Bool} {l : List α} : 0 ≤ fidx q l ↔ ∃ x ∈ l, q x = true := by
  unfold fidx
  by_cases h : l.findIdx q < l.length
  · rw [if_pos h]
    exact ⟨fun _ => ⟨_, List.getElem_mem h, List.findIdx_getElem⟩, fun _ => by omega⟩
  · rw [if_neg h]
    refine ⟨fun h => by omega, fun ⟨x, hx, hq⟩ => ?_⟩
    exact absurd (List.findIdx_lt_length_of_exists ⟨x, hx, hq⟩) h
theorem no_step {α : Type} {q : α → Bool} {l : List α} {i : Nat} {x : α} (h0 : ∀ j, j < i → ∀ y, l[j]? = some y → q y = false) (h : l[i]? = some x) (hq : q x = false) : ∀ j, j < i + 1 → ∀ y, l[j]? = some y → q y = false := fun j hj y hy => by
  rcases Nat.lt_or_ge j i with h1 | h1
  · exact h0 j h1 y hy
  · obtain rfl : j = i := by omega
    rw [h] at hy
    cases hy
    exact hq
/-- A list has a place. -/
def hasB (O : List Sp) (p : Sp) : Bool := decide (p ∈ O)
/-- All places of a list are in another one. -/
def amB (S O : List Sp) : Bool := decide (∀ p ∈ S, p ∈ O)
theorem has_pos (O : List Sp) (p : Sp) : decide (0 ≤ fidx (fun q => decide (q = p)) O) = hasB O p :=
  decide_eq_decide.2 (fidx_pos.trans ⟨fun ⟨x, h1, h2⟩ => (of_decide_eq_true h2) ▸ h1, fun h => ⟨p, h, decide_eq_true rfl⟩⟩)
theorem am_pos (S O : List Sp) : (!decide (0 ≤ fidx (fun q => !hasB O q) S)) = amB S O := by
  rw [← decide_not]
  exact decide_eq_decide.2 (by
    rw [fidx_pos]
    refine ⟨fun h p hp => Decidable.byContradiction fun hn => h ⟨p, hp, by simp [hasB, hn]⟩, fun h ⟨x, hx, hq⟩ => ?_⟩
    simp [hasB, h x hx] at hq)
theorem has_of {O : List Sp} {p : Sp} {i : Nat} (h : O[i]? = some p) : hasB O p = true := decide_eq_true (List.mem_of_getElem? h)
theorem has_not {O : List Sp} {p : Sp} (h0 : ∀ j, j < O.length → ∀ y, O[j]? = some y → decide (y = p) = false) : hasB O p = false := decide_eq_false fun h => by
  obtain ⟨j, hj⟩ := List.mem_iff_getElem?.1 h
  have := h0 j (List.getElem?_eq_some_iff.1 hj).1 p hj
  simp at this
theorem am_of {S O : List Sp} (h0 : ∀ j, j < S.length → ∀ y, S[j]? = some y → (!hasB O y) = false) : amB S O = true := decide_eq_true fun p hp => by
  obtain ⟨j, hj⟩ := List.mem_iff_getElem?.1 hp
  have := h0 j (List.getElem?_eq_some_iff.1 hj).1 p hj
  simpa [hasB] using this
theorem am_not {S O : List Sp} {i : Nat} {p : Sp} (h : S[i]? = some p) (hp : hasB O p = false) : amB S O = false := decide_eq_false fun h2 => of_decide_eq_false hp (h2 p (List.mem_of_getElem? h))
theorem eq_of_all {S O : List Sp} (hl : S.length = O.length) (h0 : ∀ j, j < S.length → ∀ y, S[j]? = some y → decide (O[j]? ≠ some y) = false) : S = O := by
  apply List.ext_getElem? ; intro j
  rcases Nat.lt_or_ge j S.length with h | h
  · have := h0 j h _ (List.getElem?_eq_getElem h)
    rw [List.getElem?_eq_getElem h]
    exact (by simpa using this : O[j]? = some S[j]).symm
  · rw [List.getElem?_eq_none h, List.getElem?_eq_none (by omega)]
end Go.Proofs.Ytjamfmnlhiolkaa
