/- JoinNumbers: plain. -/
import Derived.Test.YtdbcbclapipgdaaGreatDoorRE
set_option linter.unusedVariables false
set_option linter.unusedSimpArgs false
namespace Go.Proofs.YtdbcbclapipgdaaGreatDoor
open Go Av
set_option maxRecDepth 20000
/-- What follows, of two pieces of code; the first ones first. -/
def cdsOf : Code → List Code
  | .seq a b => b :: (cdsOf a ++ cdsOf b)
  | .cond _ a b => cdsOf a ++ cdsOf b
  | .block _ c => cdsOf c
  | .loop c => cdsOf c
  | _ => []
def cdAt (f : Func) (k : Nat) : Code := match f.body with
  | some c => (cdsOf c).getD k .skip
  | none => .skip
theorem mbC_snoc {L : List Mb} {m : Mb} : L.flatMap mbC ++ mbC m = (L ++ [m]).flatMap mbC := by
  rw [List.flatMap_append]; simp
theorem mbC_lenL (L : List Mb) : (L.flatMap mbC).length = L.length * 4 := flat_len L fun _ _ => rfl
theorem take_all {α : Type} {l : List α} {k : Nat} (h : l.length = k) : (l.drop 0).take k = l := by rw [List.drop_zero, List.take_of_length_le (by omega)]
/-- What holds of the members throughout. -/
def nuM (L : List Mb) (p : Nat) (t : Int) : Prop := mmB L = true ∧ L.length = p ∧ ∀ (k : Nat) (m : Mb), L[k]? = some m → 0 ≤ m.no ∧ m.no ≤ t
theorem nu_app {L : List Mb} {p : Nat} {t : Int} (h : nuM L p t) (h0 : 0 ≤ t) {nm sec : ByteArray} (hn : nmB nm = true) (hs : scB sec = true) (hl : ¬ 0 ≤ fdx (fun m : Mb => !ltS m.nm nm) L) : nuM (L ++ [⟨nm, sec, -1, 0⟩]) (p + 1) t := by
  obtain ⟨h1, h2, h3⟩ := h
  refine ⟨mm_app h1 hn hs fun k q hq => ?_, by rw [List.length_append, h2]; rfl, fun k m hm => ?_⟩
  · cases hc : ltS q.nm nm with
    | true => rfl
    | false => exact absurd (fdx_pos.2 ⟨q, List.mem_of_getElem? hq, by rw [hc]; rfl⟩) hl
  · rcases Nat.lt_or_ge k L.length with h | h
    · rw [List.getElem?_append_left h] at hm
      exact h3 k m hm
    · have hk : k = L.length := by
        have := (List.getElem?_eq_some_iff.1 hm).1
        rw [List.length_append] at this
        simp at this
        omega
      subst hk
      rw [List.getElem?_concat_length] at hm
      cases hm
      exact ⟨Int.le_refl 0, h0⟩
theorem nu_set {L : List Mb} {p : Nat} {t : Int} (h : nuM L p t) {i : Nat} {m : Mb} (hg : mmB (L.set i m) = true) (hm : 0 ≤ m.no ∧ m.no ≤ t + 2) : nuM (L.set i m) p (t + 2) := by
  obtain ⟨h1, h2, h3⟩ := h
  refine ⟨hg, by rw [List.length_set]; exact h2, fun k q hq => ?_⟩
  by_cases hk : i = k
  · subst hk
    have hi : i < L.length := by
      have := (List.getElem?_eq_some_iff.1 hq).1
      rwa [List.length_set] at this
    rw [List.getElem?_set_self hi] at hq
    cases hq
    exact hm
  · rw [List.getElem?_set_ne hk] at hq
    have := h3 k q hq
    omega
/-- No number twice. -/
theorem nu_ne {L : List Mb} (g : mmB L = true) {c e : Nat} {a b : Mb} (ha : L[c]? = some a) (hb : L[e]? = some b) (h : e < c) : a.nd = -1 ∨ (0 ≤ a.nd ∧ a.nd ≠ b.nd) := by
  obtain ⟨h1, h2, h3⟩ := gdB_iff.1 (mm_at g ha)
  rcases h3 with h3 | h3
  · exact .inl h3
  · have h4 := (mb1_t h1).2.2.2
    rcases h4 with h4 | h4
    · exact .inl h4
    · refine .inr ⟨by omega, fun e2 => ?_⟩
      have := tkB_false.1 h3 e h
      rw [ndA_at hb] at this
      exact this e2.symm
structure Nu where
  i : Nat
  p : Nat
  L : List Mb
theorem sc7 (q : ByteArray) (h : 1 ≤ q.size) : scB ((⟨#[115, 101, 99, 114, 101, 116, 32]⟩ : ByteArray) ++ q.extract 0 1) = true := by
  have e : ((⟨#[115, 101, 99, 114, 101, 116, 32]⟩ : ByteArray) ++ q.extract 0 1).size = 8 := by
    rw [ByteArray.size_append, ByteArray.size_extract]
    have : ((⟨#[115, 101, 99, 114, 101, 116, 32]⟩ : ByteArray) : ByteArray).size = 7 := rfl
    omega
  unfold scB
  rw [e]
  rfl
end Go.Proofs.YtdbcbclapipgdaaGreatDoor
