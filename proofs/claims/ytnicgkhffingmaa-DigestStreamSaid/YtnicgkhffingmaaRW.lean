/- Rows of texts as a law is handed them. -/
import Derived.Test.YtnicgkhffingmaaVK
import Derived.Test.YtnicgkhffingmaaI
set_option linter.unusedVariables false
set_option linter.unusedSimpArgs false
namespace Go.Proofs.Ytnicgkhffingmaa
open Go Av
set_option maxRecDepth 20000
/-- What a row of texts is in one's own numbers: one without elements is known by its length alone. -/
def rowV (i : Nat) (r : List ByteArray) : Value := if r.length = 0 then .slice (some ⟨21, 0, some 1⟩) 0 0 else .slice (some ⟨1 + i, 0, none⟩) r.length r.length
structure RowAt (W : World) (v : Value) (r : List ByteArray) (b o : Nat) : Prop where
  sz : ∀ s ∈ r, s.size ≤ 9223372036854775807
  vr : ∀ (μ : Mu) (i : Nat), μ (1 + i) = some ⟨b, o, 0, 1, false⟩ → VR μ (rowV i r) v
  cells : ∀ μ, CellsC μ (r.map Value.string) b o W
section
variable {P : Program} {W : World} {H : Type} {enc : TypeId × Value → H}
theorem spot_of {a : Addr} {v : Value} (h : W.cell? (a.add 0) = some v) : a.spot = none := by
  have e : a.add 0 = a := by simp [Addr.add]
  rw [e] at h
  unfold World.cell? at h
  cases hs : a.spot with
  | none => rfl
  | some s =>
    rw [hs] at h
    split at h
    · simp at h
    · cases h
theorem row_at {t e : TypeId} {fuel : Nat} {v : Value} {x : DataW H × List MemPlace} (ht : P.underlying t = some (.slice e)) (he : P.underlying e = some .string) (hc : P.cellsOf e = 1)
    (h : DataW.trod enc P W 0 (fun _ => true) true fuel t [v] = some x) : ∃ r b o, RowAt W v r b o := by
  rcases Deep.open_slice1 ht hc h with ⟨h1, _⟩ | ⟨a, len, cap, m, n, V, D, Pl, h1, _, hl, hm, hmm, _, hx⟩
  · cases h1
    exact ⟨[], 0, 0, fun s hs => by simp at hs, fun μ i _ => .slcOdd, fun μ j x hx => by simp at hx⟩
  · simp only [if_true] at hmm
    subst hmm
    cases h1
    obtain ⟨l, l1, l2⟩ := list_of (p := fun i (s : ByteArray) => V i = .string s ∧ s.size ≤ 9223372036854775807) len fun i hi => by
      obtain ⟨s, h3, _, h4⟩ := DataW.trod_string he (hx i (by omega)).2
      exact ⟨s, by simpa using h3, h4⟩
    by_cases h0 : len = 0
    · subst h0
      exact ⟨[], 0, 0, fun s hs => by simp at hs, fun μ i _ => .slcOdd, fun μ j x hx => by simp at hx⟩
    · have hs := spot_of (hx 0 (by omega)).1
      obtain ⟨b, off, sp⟩ := a
      dsimp only at hs
      subst hs
      refine ⟨l, b, off, fun s hs => ?_, fun μ i h => ?_, fun μ j x hj => ?_⟩
      · obtain ⟨i, hi⟩ := List.getElem?_of_mem hs
        exact (l2 i s hi).2
      · unfold rowV
        rw [if_neg (by omega), l1]
        exact vr_slice_ro h hl
      · rw [List.getElem?_map] at hj
        cases hq : l[j]? with
        | none => rw [hq] at hj; cases hj
        | some s =>
          rw [hq] at hj
          cases hj
          have hlt := (List.getElem?_eq_some_iff.1 hq).1
          have h2 := (hx j (by omega)).1
          rw [Go.WideShapes.add_plain, (l2 j s hq).1] at h2
          exact ⟨_, h2, .string s⟩
/-- The outer slice's cells. -/
def rowsC (R : Nat → List ByteArray) (n : Nat) : List Value := (List.range n).map fun i => rowV i (R i)
def rowB (R : Nat → List ByteArray) (i : Nat) : Option Blk := some ⟨(R i).map Value.string, false, 1⟩
/-- What a law that takes rows of texts is called with. -/
theorem calls_rows {t e s : TypeId} {fuel : Nat} {v : Value} {x : DataW H × List MemPlace} {f : FuncId} (ht : P.underlying t = some (.slice e)) (he : P.underlying e = some (.slice s)) (hs : P.underlying s = some .string) (ce : P.cellsOf e = 1) (cs : P.cellsOf s = 1)
    (h : DataW.trod enc P W 0 (fun _ => true) true fuel t [v] = some x) (hsp : CellSpot [v])
    (h1 : ∀ n, 20 < n → n ≤ 9223372036854775807 → ACalls P f [.slice (some ⟨0, 0, none⟩) n n] [some ⟨[], false, 1⟩] (.bool true) [none])
    (h2 : ∀ (n : Nat) (R : Nat → List ByteArray), n ≤ 20 → (∀ i, ∀ s ∈ R i, s.size ≤ 9223372036854775807) → ∃ m', ACalls P f [.slice (some ⟨0, 0, none⟩) n n] (some ⟨rowsC R n, false, 1⟩ :: (List.range 20).map (rowB R)) (.bool true) m')
    (hamb : Amb (fun k => W.heap.size ≤ k) W := by exact ⟨fun g h => by cases h⟩) : Calls P f #[v] W fun e w' => e = .returned (.bool true) ∧ RowKit.Below W.heap.size W w' := by
  have z1 : (1 : Nat) ≠ mapZ := by decide
  have hno : ∀ n (R : Nat → List ByteArray) (ls : Nat → Nat × Nat) (b o : Nat), n ≤ 20 → (∀ i, ∀ s ∈ R i, s.size ≤ 9223372036854775807) → (∀ μ : Mu, (∀ i, i < 20 → μ (1 + i) = some ⟨(ls i).1, (ls i).2, 0, 1, false⟩) → CellsC μ (rowsC R n) b o W) → (∀ i μ, CellsC μ ((R i).map Value.string) (ls i).1 (ls i).2 W) →
      (∀ μ : Mu, μ 0 = some ⟨b, o, 0, 1, false⟩ → VR μ (.slice (some ⟨0, 0, none⟩) n n) v) → Calls P f #[v] W fun e w' => e = .returned (.bool true) ∧ RowKit.Below W.heap.size W w' := by
    intro n R ls b o hn hsz hc hr hv
    obtain ⟨m', h3⟩ := h2 n R hn hsz
    let μ : Mu := fun i => if i = 0 then some ⟨b, o, 0, 1, false⟩ else if i ≤ 20 then some ⟨(ls (i - 1)).1, (ls (i - 1)).2, 0, 1, false⟩ else none
    have m1 : ∀ i, i < 20 → μ (1 + i) = some ⟨(ls i).1, (ls i).2, 0, 1, false⟩ := fun i hi => by
      show (if 1 + i = 0 then _ else if 1 + i ≤ 20 then some (Loc.mk (ls (1 + i - 1)).1 (ls (1 + i - 1)).2 0 1 false) else none) = _
      rw [if_neg (by omega), if_pos (by omega), Nat.add_sub_cancel_left]
    refine calls_of h3 rfl (μ := μ) (fun i hi => ?_) (repM_ro (hA := hamb) fun id B hB => ?_) rfl (VRL.at (.cons (hv μ rfl) .nil))
    · have hi : 21 ≤ i := by simpa using hi
      show (if i = 0 then _ else if i ≤ 20 then _ else none) = _
      rw [if_neg (by omega), if_neg (by omega)]
    · rw [live_some] at hB
      cases id with
      | zero =>
        simp at hB
        subst hB
        exact ⟨rfl, _, rfl, rfl, rfl, z1, CellsC.z (hc μ m1) z1⟩
      | succ id =>
        rw [List.getElem?_cons_succ, List.getElem?_map] at hB
        cases hq : (List.range 20)[id]? with
        | none => rw [hq] at hB; cases hB
        | some j =>
          rw [hq] at hB
          have hlt := (List.getElem?_eq_some_iff.1 hq).1
          rw [List.length_range] at hlt
          rw [List.getElem?_range hlt] at hq
          cases hq
          simp [rowB] at hB
          subst hB
          exact ⟨rfl, _, by rw [Nat.add_comm]; exact m1 id hlt, rfl, rfl, z1, CellsC.z (hr id μ) z1⟩
  rcases Deep.open_slice1 ht ce h with ⟨h3, _⟩ | ⟨a, len, cap, m, n, V, D, Pl, h3, _, hl, hm, hmm, _, hx⟩
  · cases h3
    exact hno 0 (fun _ => []) (fun _ => (0, 0)) 0 0 (by omega) (fun i s hs => by simp at hs) (fun μ _ j x hx => by simp [rowsC] at hx) (fun i μ j x hx => by simp at hx) (fun μ _ => .slcNil)
  · simp only [if_true] at hmm
    subst hmm
    cases h3
    have hsp := hsp a len m (List.mem_singleton.2 rfl)
    obtain ⟨b, off, sp⟩ := a
    dsimp only at hsp
    subst hsp
    by_cases hn : len ≤ 20
    · have hrow : ∀ i, ∃ q : List ByteArray × Nat × Nat, (i < len → RowAt W (V i) q.1 q.2.1 q.2.2) ∧ (¬ i < len → q = ([], 0, 0)) := fun i => by
        by_cases hi : i < len
        · obtain ⟨r, b', o', hr⟩ := row_at he hs cs (hx i (by omega)).2
          exact ⟨(r, b', o'), fun _ => hr, fun h => absurd hi h⟩
        · exact ⟨([], 0, 0), fun h => absurd h hi, fun _ => rfl⟩
      have hq := fun i => (hrow i).choose_spec
      generalize hQ : (fun i => (hrow i).choose) = Q
      have hq : ∀ i, (i < len → RowAt W (V i) (Q i).1 (Q i).2.1 (Q i).2.2) ∧ (¬ i < len → Q i = ([], 0, 0)) := fun i => by rw [← hQ]; exact hq i
      refine hno len (fun i => (Q i).1) (fun i => (Q i).2) b off hn (fun i s hs => ?_) (fun μ hμ j x hj => ?_) (fun i μ => ?_) (fun μ h => vr_slice_ro h hl)
      · by_cases hi : i < len
        · exact ((hq i).1 hi).sz s hs
        · rw [(hq i).2 hi] at hs
          simp at hs
      · unfold rowsC at hj
        rw [List.getElem?_map] at hj
        cases hr : (List.range len)[j]? with
        | none => rw [hr] at hj; cases hj
        | some i =>
          rw [hr] at hj
          have hlt := (List.getElem?_eq_some_iff.1 hr).1
          rw [List.length_range] at hlt
          rw [List.getElem?_range hlt] at hr
          cases hr
          cases hj
          have h2 := (hx j (by omega)).1
          rw [Go.WideShapes.add_plain] at h2
          exact ⟨_, h2, ((hq j).1 hlt).vr μ j (hμ j (by omega))⟩
      · by_cases hi : i < len
        · exact ((hq i).1 hi).cells μ
        · show CellsC μ ((Q i).1.map Value.string) (Q i).2.1 (Q i).2.2 W
          rw [(hq i).2 hi]
          exact fun j x hx => by simp at hx
    · let μ : Mu := fun i => if i = 0 then some ⟨b, off, 0, 1, false⟩ else none
      refine calls_of (h1 len (by omega) (by have : maxLen = 9223372036854775807 := rfl; omega)) rfl (μ := μ) (fun i hi => ?_) (repM_ro (hA := hamb) fun id B hB => ?_) rfl (VRL.at (.cons (vr_slice_ro rfl hl) .nil))
      · have hi : 1 ≤ i := by simpa using hi
        show (if i = 0 then _ else none) = _
        rw [if_neg (by omega)]
      · rw [live_some] at hB
        cases id with
        | zero =>
          simp at hB
          subst hB
          exact ⟨rfl, _, rfl, rfl, rfl, z1, fun j x hx => by simp at hx⟩
        | succ id => simp at hB
end
end Go.Proofs.Ytnicgkhffingmaa
