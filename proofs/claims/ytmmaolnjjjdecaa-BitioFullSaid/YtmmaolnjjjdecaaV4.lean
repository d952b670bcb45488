/- Walking in numbers of one's own: what the operations do that read or write memory. -/
import Derived.Test.YtmmaolnjjjdecaaV3
set_option linter.unusedVariables false
set_option linter.unusedSimpArgs false
namespace Go.Proofs.Ytmmaolnjjjdecaa.Av
/-! ### lists -/
/-- cells from o on, as many as vs, replaced by vs. -/
inductive SpliceR : List Value → Nat → List Value → List Value → Prop
  | nil {l} : SpliceR l 0 [] l
  | cons {a l v vs l'} : SpliceR l 0 vs l' → SpliceR (a :: l) 0 (v :: vs) (v :: l')
  | skip {a l n vs l'} : SpliceR l n vs l' → SpliceR (a :: l) (n + 1) vs (a :: l')
/-- n cells from o on. -/
inductive TakeR : List Value → Nat → Nat → List Value → Prop
  | nil {l} : TakeR l 0 0 []
  | cons {a l n l'} : TakeR l 0 n l' → TakeR (a :: l) 0 (n + 1) (a :: l')
  | skip {a l o n l'} : TakeR l o n l' → TakeR (a :: l) (o + 1) n l'
theorem SpliceR.spec {l o vs l'} (h : SpliceR l o vs l') : o + vs.length ≤ l.length ∧ l'.length = l.length ∧ (∀ j, j < vs.length → l'[o + j]? = vs[j]?) ∧ (∀ j, j < o ∨ o + vs.length ≤ j → l'[j]? = l[j]?) := by
  induction h with
  | nil => simp
  | cons h ih =>
    obtain ⟨h1, h2, h3, h4⟩ := ih
    refine ⟨by simp at *; omega, by simp [h2], fun j hj => ?_, fun j hj => ?_⟩
    · cases j with
      | zero => simp
      | succ j => have := h3 j (by simpa using hj); simpa using this
    · cases j with
      | zero => simp at hj
      | succ j => have := h4 j (by simp at hj; omega); simpa using this
  | skip h ih =>
    obtain ⟨h1, h2, h3, h4⟩ := ih
    refine ⟨by simp at *; omega, by simp [h2], fun j hj => ?_, fun j hj => ?_⟩
    · have := h3 j hj
      rw [show ∀ n : Nat, n + 1 + j = (n + j) + 1 from fun n => by omega]
      simpa using this
    · cases j with
      | zero => simp
      | succ j => have := h4 j (by omega); simpa using this
theorem TakeR.spec {l o n xs} (h : TakeR l o n xs) : xs.length = n ∧ ∀ j, j < n → l[o + j]? = xs[j]? := by
  induction h with
  | nil => simp
  | cons h ih =>
    obtain ⟨h1, h2⟩ := ih
    refine ⟨by simp [h1], fun j hj => ?_⟩
    cases j with
    | zero => simp
    | succ j => have := h2 j (by omega); simpa using this
  | skip h ih =>
    obtain ⟨h1, h2⟩ := ih
    refine ⟨h1, fun j hj => ?_⟩
    have := h2 j hj
    rw [show ∀ n : Nat, n + 1 + j = (n + j) + 1 from fun n => by omega]
    simpa using this
theorem TakeR.eq {l o n xs} (h : TakeR l o n xs) : (l.drop o).take n = xs := by
  induction h with
  | nil => simp
  | cons h ih => simpa using ih
  | skip h ih => simpa using ih
theorem take_full {l : List Value} {n : Nat} (h : l.length = n) : (l.drop 0).take n = l := by subst h; simp
theorem SpliceR.of {l : List Value} {o : Nat} {vs : List Value} : o + vs.length ≤ l.length → SpliceR l o vs (l.take o ++ vs ++ l.drop (o + vs.length)) := by
  induction l generalizing o vs with
  | nil =>
    intro h
    have h1 : o = 0 := by simp only [List.length_nil] at h; omega
    have h2 : vs = [] := List.eq_nil_of_length_eq_zero (by simp only [List.length_nil] at h; omega)
    subst h1 h2
    exact .nil
  | cons a l ih =>
    intro h
    cases o with
    | zero =>
      cases vs with
      | nil => exact .nil
      | cons v vs =>
        have := ih (o := 0) (vs := vs) (by simp at h ⊢; omega)
        simpa using SpliceR.cons this
    | succ o =>
      have := ih (o := o) (vs := vs) (by simp at h ⊢; omega)
      rw [show o + 1 + vs.length = (o + vs.length) + 1 by omega]
      simpa using SpliceR.skip (a := a) this
theorem splice_map {α : Type} {f : α → Value} {x : α} {l : List α} {o j : Nat} (hj : o = j) (h : j < l.length) : SpliceR (l.map f) o [f x] ((l.set j x).map f) := by
  subst hj
  induction l generalizing o with
  | nil => simp at h
  | cons a l ih =>
    cases o with
    | zero => exact .cons .nil
    | succ o => exact .skip (ih (by simpa using h))
theorem splice_ints {k : IntKind} {x : Int} {l : List Int} {o j : Nat} (hj : o = j) (h : j < l.length) : SpliceR (l.map (Value.int k)) o [.int k x] ((l.set j x).map (Value.int k)) := splice_map (f := Value.int k) hj h
theorem TakeR.of {l : List Value} {o n : Nat} : o + n ≤ l.length → TakeR l o n ((l.drop o).take n) := by
  induction l generalizing o n with
  | nil =>
    intro h
    have h1 : o = 0 := by simp only [List.length_nil] at h; omega
    have h2 : n = 0 := by simp only [List.length_nil] at h; omega
    subst h1 h2
    exact .nil
  | cons a l ih =>
    intro h
    cases o with
    | zero =>
      cases n with
      | zero => exact .nil
      | succ n => simpa using TakeR.cons (a := a) (ih (o := 0) (n := n) (by simp at h ⊢; omega))
    | succ o => simpa using TakeR.skip (a := a) (ih (o := o) (n := n) (by simp at h ⊢; omega))
theorem exists_list (p : Nat → Value → Prop) : ∀ n, (∀ j, j < n → ∃ y, p j y) → ∃ ys : List Value, ys.length = n ∧ ∀ j y, ys[j]? = some y → p j y
  | 0, _ => ⟨[], rfl, fun j y h => by simp at h⟩
  | n + 1, h => by
    obtain ⟨ys, h1, h2⟩ := exists_list p n fun j hj => h j (by omega)
    obtain ⟨y, hy⟩ := h n (by omega)
    refine ⟨ys ++ [y], by simp [h1], fun j z hz => ?_⟩
    rw [List.getElem?_append] at hz
    split at hz
    · exact h2 j z hz
    · rename_i hj
      have : j = n := by
        rcases Nat.lt_or_ge j (n + 1) with h' | h'
        · omega
        · rw [List.getElem?_eq_none (by simp; omega)] at hz; cases hz
      subst this
      have e : j - ys.length = 0 := by omega
      rw [e] at hz
      simp at hz
      exact hz ▸ hy
/-! ### memory -/
theorem VR.ptr' {μ : Mu} {id o y} (h : VR μ (.pointer (some ⟨id, o, none⟩)) y) : ∃ L, μ id = some L ∧ y = .pointer (some ⟨L.b, L.o + o, none⟩) := by
  cases h with
  | ptr hL => exact ⟨_, hL, rfl⟩
theorem VR.agg' {μ : Mu} {xs y} (h : VR μ (.agg xs) y) : ∃ ys : Array Value, y = .agg ys ∧ xs.size = ys.size ∧ ∀ (i : Nat) u v, xs[i]? = some u → ys[i]? = some v → VR μ u v := by
  cases h with
  | agg a b => exact ⟨_, rfl, a, b⟩
theorem VR.tuple' {μ : Mu} {xs y} (h : VR μ (.tuple xs) y) : ∃ ys : Array Value, y = .tuple ys ∧ xs.size = ys.size ∧ ∀ (i : Nat) u v, xs[i]? = some u → ys[i]? = some v → VR μ u v := by
  cases h with
  | tuple a b => exact ⟨_, rfl, a, b⟩
theorem VR.cells {μ : Mu} {x y} (h : VR μ x y) : x.cells.size = y.cells.size ∧ ∀ (i : Nat) u v, x.cells[i]? = some u → y.cells[i]? = some v → VR μ u v := by
  have h0 := h
  cases h with
  | agg a b => exact ⟨a, b⟩
  | _ =>
    refine ⟨rfl, fun i u v hu hv => ?_⟩
    cases i <;> simp [Value.cells] at hu hv
    subst hu hv
    assumption
theorem add_off (b o j : Nat) : (⟨b, o, none⟩ : Addr).add j = ⟨b, o + j, none⟩ := by unfold Addr.add; split <;> simp_all
section
variable {F : Nat → Prop} {w0 : World} {μ : Mu} {m : Mem} {w : World}
theorem RepM.cells (h : RepM F w0 μ m w) {id : Nat} {B : Blk} {L : Loc} (hB : live m id = some B) (hL : μ id = some L) : CellsOK μ B.cells L.b L.o w := by
  obtain ⟨L', h1, h2, _⟩ := h.blk id B hB
  rw [hL] at h1; cases h1
  exact h2.cells
theorem RepM.loadN {P : Program} (h : RepM F w0 μ m w) {id o n : Nat} {B : Blk} {L : Loc} {xs : List Value} (hB : live m id = some B) (hL : μ id = some L) (hx : TakeR B.cells o n xs) :
    ∃ ys : List Value, (loadCells ⟨L.b, L.o + o, none⟩ n).run P w = .ok ys.toArray w ∧ ys.length = n ∧ ∀ (j : Nat) x y, xs[j]? = some x → ys[j]? = some y → VR μ x y := by
  have hc := h.cells hB hL
  obtain ⟨t1, t2⟩ := hx.spec
  obtain ⟨ys, h1, h2⟩ := exists_list (fun j y => w.cell? ⟨L.b, L.o + o + j, none⟩ = some y ∧ ∀ x, xs[j]? = some x → VR μ x y) n fun j hj => by
    have hj' : j < xs.length := by omega
    obtain ⟨y, k1, k2⟩ := hc (o + j) xs[j] (by rw [t2 j hj]; exact List.getElem?_eq_getElem hj')
    refine ⟨y, by rw [Nat.add_assoc]; exact k1, fun x hx => ?_⟩
    rw [List.getElem?_eq_getElem hj'] at hx
    cases hx; exact k2
  refine ⟨ys, ?_, h1, fun j x y hx hy => (h2 j y hy).2 x hx⟩
  rw [← h1]
  exact run_loadCells_list w _ ys fun j v hv => by rw [add_off]; exact (h2 j v hv).1
theorem setCells_heap (b : Nat) {e : TypeId} {fr : Nat × Nat} : ∀ (vs : List Value) (o : Nat) (w : World) (c : Array Value), w.heap[b]? = some (.cells c e fr) → o + vs.length ≤ c.size →
    (w.setCells b o vs).os = w.os ∧ (w.setCells b o vs).tape = w.tape ∧ (w.setCells b o vs).output = w.output ∧ (w.setCells b o vs).heap.size = w.heap.size ∧ (∀ k, k ≠ b → (w.setCells b o vs).heap[k]? = w.heap[k]?) ∧
    ∃ c' : Array Value, (w.setCells b o vs).heap[b]? = some (.cells c' e fr) ∧ c'.size = c.size ∧ (∀ j, j < vs.length → c'[o + j]? = vs[j]?) ∧ ∀ j, j < o ∨ o + vs.length ≤ j → c'[j]? = c[j]?
  | [], o, w, c, h, _ => ⟨rfl, rfl, rfl, rfl, fun _ _ => rfl, c, h, rfl, fun j hj => by simp at hj, fun _ _ => rfl⟩
  | v :: vs, o, w, c, h, hl => by
    have h1 : (w.setCell ⟨b, o, none⟩ v).heap[b]? = some (.cells (c.setIfInBounds o v) e fr) := by
      simp [World.setCell, Array.getElem?_modify, h]
    have hl' : o + 1 + vs.length ≤ c.size := by simp at hl; omega
    obtain ⟨a1, a2, a3, a4, a5, c', a6, a7, a8, a9⟩ := setCells_heap b vs (o + 1) (w.setCell ⟨b, o, none⟩ v) _ h1 (by simpa using hl')
    refine ⟨a1, a2, a3, a4.trans (by simp), fun k hk => (a5 k hk).trans (by simp [World.setCell, Array.getElem?_modify, Ne.symm hk]), c', a6, a7.trans (by simp), fun j hj => ?_, fun j hj => ?_⟩
    · cases j with
      | zero =>
        rw [Nat.add_zero, a9 o (by omega)]
        simp [show o < c.size by omega]
      | succ j =>
        have := a8 j (by simp at hj; omega)
        rw [show o + (j + 1) = o + 1 + j by omega, this]
        simp
    · rw [a9 j (by simp at hj; omega)]
      simp [show o ≠ j by simp at hj; omega]
theorem RepM.row (h : RepM F w0 μ m w) {id : Nat} {B : Blk} {L : Loc} (hB : live m id = some B) (hL : μ id = some L) (hr : B.rw = true) (hb : Takes B L) : RowOK L w := by
  obtain ⟨L', h1, h2, _⟩ := h.blk id B hB
  rw [hL] at h1; cases h1
  exact h2.row (h2.rw hr) hb
/-- Cells of a block of one's own are stored. -/
theorem RepM.storeN {P : Program} (h : RepM F w0 μ m w) {id o : Nat} {B : Blk} {L : Loc} {xs cs' ys : List Value} (hB : live m id = some B) (hr : B.rw = true) (hL : μ id = some L) (hs : SpliceR B.cells o xs cs') (hx0 : 0 < xs.length)
    (hlen : xs.length = ys.length) (hv : ∀ (j : Nat) x y, xs[j]? = some x → ys[j]? = some y → VR μ x y) (h1 : ∀ y ∈ ys, y.oneCell' = true) :
    ∃ w', (storeCells ⟨L.b, L.o + o, none⟩ ys).run P w = .ok () w' ∧ RepM F w0 μ (m.set id (some { B with cells := cs' })) w' := by
  obtain ⟨s1, s2, s3, s4⟩ := hs.spec
  obtain ⟨c, e, lo, hi, r1, r2, r3⟩ := h.row hB hL hr (.inr (by intro h0; rw [h0] at s1; simp only [List.length_nil] at s1; omega))
  have hc := h.cells hB hL
  have hcell : ∀ j, w.cell? ⟨L.b, j, none⟩ = c[j]? := fun j => by simp [World.cell?, r1]
  have hin : ∀ j, j < B.cells.length → L.o + j < c.size := fun j hj => by
    obtain ⟨y, k1, _⟩ := hc j B.cells[j] (List.getElem?_eq_getElem hj)
    rw [hcell] at k1
    rcases Nat.lt_or_ge (L.o + j) c.size with h' | h'
    · exact h'
    · rw [Array.getElem?_eq_none h'] at k1; cases k1
  have hfit : L.o + o + ys.length ≤ c.size := by
    have := hin (o + xs.length - 1) (by omega)
    omega
  have hst := run_storeCells_cells (P := P) L.b (L.o + o) ys 0 w (fun j hj => by
      rw [hcell]; simp; omega) (fun j hj => by
      simp only [World.frozen?, r1]
      have := r3.2 (L.o + o + 0 + j) (by omega)
      simpa using this) h1
  refine ⟨_, hst, ?_⟩
  rw [Nat.add_zero]
  obtain ⟨a1, a2, a3, a4, a5, c', a6, a7, a8, a9⟩ := setCells_heap L.b ys (L.o + o) w c r1 hfit
  refine h.write hB hL ⟨hr, by omega⟩ a1 a2 a3 a4 a5 ⟨c', e, lo, hi, a6, a7.trans r2, r3.1, fun j hj => r3.2 j (by omega)⟩ fun j x hx => ?_
  have hcell' : (w.setCells L.b (L.o + o) ys).cell? ⟨L.b, L.o + j, none⟩ = c'[L.o + j]? := by simp [World.cell?, a6]
  rw [hcell']
  by_cases hj : o ≤ j ∧ j < o + xs.length
  · have e1 := s3 (j - o) (by omega)
    rw [show o + (j - o) = j by omega, hx] at e1
    have e2 := a8 (j - o) (by omega)
    rw [show L.o + o + (j - o) = L.o + j by omega] at e2
    have hlt : j - o < ys.length := by omega
    exact ⟨ys[j - o], by rw [e2]; exact List.getElem?_eq_getElem hlt, hv (j - o) x _ e1.symm (List.getElem?_eq_getElem hlt)⟩
  · rw [s4 j (by omega)] at hx
    obtain ⟨y, k1, k2⟩ := hc j x hx
    exact ⟨y, by rw [a9 (L.o + j) (by omega), ← hcell]; exact k1, k2⟩
end
end Go.Proofs.Ytmmaolnjjjdecaa.Av
