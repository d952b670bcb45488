/- Walking in numbers of one's own: what a law's row hands in. -/
import Derived.Test.YtmmaolnjjjdecaaV13
import Derived.OpenShut
import Derived.ChangeSame
import Derived.Deep.Slices
import Derived.Lib.SmallJoins
set_option linter.unusedVariables false
set_option linter.unusedSimpArgs false
namespace Go.Proofs.Ytmmaolnjjjdecaa.Av
open Go.RowKit (Below)
open Go.ChangeShapes Go.WideShapes Go.ChangeAt Go.RowKit

/-- Blocks that came in and are only read: cells, element size, block, first cell. -/
structure RoIn where
  cells : List Value
  z : Nat
  b : Nat
  o : Nat
def muRo (l : List RoIn) : Mu := fun i => (l[i]?).map fun x => ⟨x.b, x.o, 0, x.z, false⟩
def memRo (l : List RoIn) : Mem := l.map fun x => some ⟨x.cells, false, x.z⟩
theorem dom_ro (l : List RoIn) : Dom (muRo l) (memRo l).length := fun id h => by
  simp only [memRo, List.length_map] at h
  simp [muRo, List.getElem?_eq_none h]
theorem repM_ros {W : World} (l : List RoIn) (h : ∀ x ∈ l, CellsOK (muRo l) x.cells x.b x.o W) : RepM (fun k => W.heap.size ≤ k) W (muRo l) (memRo l) W :=
  repM_ro fun id B hB => by
    simp only [live, memRo, List.getElem?_map] at hB
    cases hx : l[id]? with
    | none => rw [hx] at hB; simp at hB
    | some x =>
      rw [hx] at hB
      simp at hB
      subst hB
      exact ⟨rfl, ⟨x.b, x.o, 0, x.z, false⟩, by simp [muRo, hx], rfl, rfl, h x (List.mem_of_getElem? hx)⟩
theorem cells_ints {μ : Mu} {k : IntKind} {Z : List Int} {b o : Nat} {W : World} (h : ∀ j x, Z[j]? = some x → W.cell? ⟨b, o + j, none⟩ = some (.int k x)) : CellsOK μ (Z.map (Value.int k)) b o W := fun j x hx => by
  rw [List.getElem?_map] at hx
  cases hz : Z[j]? with
  | none => rw [hz] at hx; simp at hx
  | some z =>
    rw [hz] at hx
    simp at hx
    subst hx
    exact ⟨_, h j z hz, .int _ _⟩

/-- A slice of integers that came in. -/
inductive IntsIn (k : IntKind) (W : World) : Value → List Int → Prop
  | nil : IntsIn k W (.slice none 0 0) []
  | adr {b off n cap : Nat} {Z : List Int} : n ≤ cap → Z.length = n → (∀ j x, Z[j]? = some x → W.cell? ⟨b, off + j, none⟩ = some (.int k x)) → IntsIn k W (.slice (some ⟨b, off, none⟩) n cap) Z
theorem sl_ints {H : Type} {enc : TypeId × Value → H} {P : Program} {W : World} {r : Reach} {b0 : Nat} {t e : TypeId} {k : IntKind} {v : Value} {d : DataW H} {p : List MemPlace} (ht : P.underlying t = some (.slice e)) (he : P.underlying e = some (.int k)) (hc : P.cellsOf e = 1)
    (hok : Value.okWide P W r b0 t v) (h : DataW.Trod enc P W 0 (fun _ => true) true t v d p) : ∃ Z, IntsIn k W v Z ∧ ∀ x ∈ Z, k.min ≤ x ∧ x ≤ k.max := by
  have hok' := hok
  obtain ⟨a, n, cap, rfl⟩ := okWide_slice ht hok
  obtain ⟨fuel, hf⟩ := h
  rcases Deep.open_slice ht hf with ⟨hcs, _⟩ | ⟨x, l, c, m, n', D, Pl, hcs, _, hl, hm, hmm, _, hi⟩
  · simp [Value.cells] at hcs
    obtain ⟨rfl, rfl, rfl⟩ := hcs
    exact ⟨[], .nil, by simp⟩
  · simp [Value.cells] at hcs
    obtain ⟨rfl, rfl, rfl⟩ := hcs
    simp only [if_true] at hmm
    subst hmm
    have hspot : x.spot = none := by
      simp only [Value.okWide, ht, Cell.okWide, Cell.ok, World.has] at hok'
      exact hok'.2.2.2.1
    obtain ⟨b, off, spot⟩ := x
    dsimp only at hspot
    subst hspot
    have hall : ∀ i, i < n → ∃ z : Int, W.cell? ⟨b, off + i, none⟩ = some (.int k z) ∧ k.min ≤ z ∧ z ≤ k.max := fun i hin => by
      obtain ⟨cs, h1, h2⟩ := hi i (by omega)
      obtain ⟨_, hlen, hcell⟩ := World.cells?_some h1
      obtain ⟨z, hz, _, hw⟩ := DataW.trod_int he h2
      subst hz
      have := hcell 0 (by omega)
      rw [Go.WideShapes.add_plain, Go.WideShapes.add_plain, hc, Nat.mul_one, Nat.add_zero] at this
      refine ⟨z, by simpa using this, ?_⟩
      simpa [Lit.wf] using hw
    refine ⟨(List.range n).map fun i => if h : i < n then (hall i h).choose else 0, .adr hl (by simp) fun j x hx => ?_, fun x hx => ?_⟩
    · rw [List.getElem?_map] at hx
      cases hr : (List.range n)[j]? with
      | none => rw [hr] at hx; simp at hx
      | some i =>
        have hj := List.getElem?_eq_some_iff.1 hr
        obtain ⟨hj1, hj2⟩ := hj
        simp at hj1 hj2
        subst hj2
        rw [hr] at hx
        simp only [Option.map_some, dif_pos hj1] at hx
        cases hx
        exact (hall j hj1).choose_spec.1
    · rw [List.mem_map] at hx
      obtain ⟨i, hi1, hi2⟩ := hx
      have : i < n := List.mem_range.1 hi1
      rw [dif_pos this] at hi2
      subst hi2
      exact (hall i this).choose_spec.2
theorem getD_range {Z : List Int} {a b : Int} (h : ∀ x ∈ Z, a ≤ x ∧ x ≤ b) (h0 : a ≤ 0) (h1 : 0 ≤ b) (j : Nat) : a ≤ Z.getD j 0 ∧ Z.getD j 0 ≤ b := by
  rw [List.getD_eq_getElem?_getD]
  cases hz : Z[j]? with
  | none => exact ⟨h0, h1⟩
  | some z => exact h z (List.mem_of_getElem? hz)
/-- What an argument of this kind is called in one's own numbers. -/
theorem IntsIn.split {k : IntKind} {W : World} {v : Value} {Z : List Int} (h : IntsIn k W v Z) : (v = .slice none 0 0 ∧ Z = []) ∨ ∃ (b off n cap : Nat), v = .slice (some ⟨b, off, none⟩) n cap ∧ n ≤ cap ∧ Z.length = n ∧ (∀ μ, CellsOK μ (Z.map (Value.int k)) b off W) := by
  cases h with
  | nil => exact .inl ⟨rfl, rfl⟩
  | adr a b c => exact .inr ⟨_, _, _, _, rfl, a, b, fun μ => cells_ints c⟩
theorem vr_slice_ro {μ : Mu} {id b off n c cap z : Nat} (h : μ id = some ⟨b, off, 0, z, false⟩) (hn : n ≤ cap) : VR μ (.slice (some ⟨id, 0, none⟩) n c) (.slice (some ⟨b, off, none⟩) n cap) :=
  .slc h hn (fun _ => rfl) (fun _ => rfl) (fun h => by cases h)
/-- An argument of this kind as one's own slice, be it nil or not. -/
theorem IntsIn.ro {k : IntKind} {W : World} {v : Value} {Z : List Int} (h : IntsIn k W v Z) : ∃ b off, (∀ (μ : Mu) id, μ id = some ⟨b, off, 0, 1, false⟩ → VR μ (.slice (some ⟨id, 0, none⟩) Z.length Z.length) v) ∧ ∀ μ, CellsOK μ (Z.map (Value.int k)) b off W := by
  rcases h.split with ⟨rfl, rfl⟩ | ⟨b, off, n, cap, rfl, h1, h2, h3⟩
  · exact ⟨0, 0, fun _ _ _ => .slcNil, fun _ j x hx => by simp at hx⟩
  · exact ⟨b, off, fun μ id h => by rw [h2]; exact vr_slice_ro h h1, h3⟩
/-- Arguments, one by one. -/
inductive VRL (μ : Mu) : List Value → List Value → Prop
  | nil : VRL μ [] []
  | cons {x y l l'} : VR μ x y → VRL μ l l' → VRL μ (x :: l) (y :: l')
theorem VRL.at {μ : Mu} {l l' : List Value} (h : VRL μ l l') : ∀ (i : Nat) x y, l[i]? = some x → (l'.toArray)[i]? = some y → VR μ x y := by
  induction h with
  | nil => intro i x y h; simp at h
  | cons a _ ih =>
    intro i x y h1 h2
    cases i with
    | zero => simp at h1 h2; subst h1; subst h2; exact a
    | succ i => exact ih i x y (by simpa using h1) (by simpa using h2)
theorem VRL.plain {μ : Mu} {x : Value} {l l' : List Value} (h : VRL μ l l') (hp : Av.plain 6 x = true) : VRL μ (x :: l) (x :: l') := .cons (plain_refl μ 6 x hp) h
theorem trodAll_below {H : Type} {enc : TypeId × Value → H} {P : Program} (hl : laidOutB P = true) {W W' : World} (hb : Below W.heap.size W W') :
    ∀ {ts : List TypeId} {vs : List Value} {ds : List (DataW H)} {ps : List MemPlace}, ts.all (fun t => P.readableRec t && decide (t < P.types.size)) = true → (∀ x ∈ ps, x.block < W.heap.size) →
      DataW.TrodAll enc P W 0 (fun _ => true) true ts vs ds ps → DataW.TrodAll enc P W' 0 (fun b => decide (b < W.heap.size)) true ts vs ds ps
  | [], [], [], _, _, _, h => h
  | t :: ts, v :: vs, d :: ds, ps, ha, hp, h => by
    obtain ⟨p, q, h1, h2, rfl⟩ := h
    simp only [List.all_cons, Bool.and_eq_true, decide_eq_true_eq] at ha
    refine ⟨p, q, Below.trod hl ha.1.1 ha.1.2 h1 hb (fun x hx => hp x (List.mem_append_left _ hx)), trodAll_below hl hb ha.2 (fun x hx => hp x (List.mem_append_right _ hx)) h2, rfl⟩
  | [], _ :: _, _, _, _, _, h => h.elim
  | [], [], _ :: _, _, _, _, h => h.elim
  | _ :: _, [], _, _, _, _, h => h.elim
  | _ :: _, _ :: _, [], _, _, _, h => h.elim
/-- A law's end: it returned true, and what was there is as it was. -/
theorem law_post {H : Type} {enc : TypeId × Value → H} {P : Program} {f : Func} {s : ChangeSpec} {apart : Bool} {W W' : World} {args : Array Value} {ds gs : List (DataW H)} {before : List MemPlace} {tb : TypeId}
    (hl : laidOutB P = true) (hts : f.params.toList.all (fun t => P.readableRec t && decide (t < P.types.size)) = true) (hres : f.resultTypes = #[tb]) (htb : P.underlying tb = some .bool) (hvars : s.vars = [])
    (hr : (s.fn H ds).results = [.lit (.bool true)]) (ha : (s.fn H ds).args = ds) (hv : (s.fn H ds).vars = [])
    (hW : DataW.Whole enc P f.params.toList s.vars apart W args.toList ds gs before) (hb : Below W.heap.size W W') :
    s.post enc P f apart true false false W args (.bool true) W' := by
  obtain ⟨p, q, hA, hV, hbf, hz, hn⟩ := id hW
  rw [hvars] at hV
  obtain ⟨rfl, rfl⟩ := trodVars_none hV
  refine ⟨ds, [], before, [], p, [], hW, ?_, ?_, ?_, hb.frame _, fun h => by cases h⟩
  · rw [List.append_nil, hr, hres]
    exact trodAll_mk1 (shut_bool htb _)
  · rw [List.append_nil, ha]
    exact trodAll_below hl hb hts (fun x hx => hW.lt x (by rw [hbf]; exact List.mem_append_left _ hx)) hA
  · rw [List.append_nil, hv, hvars]
    rfl
end Go.Proofs.Ytmmaolnjjjdecaa.Av
