/- Walking in numbers of one's own: the library, part B. -/
import Derived.Test.YtdenooeaiicheaaGreatVA
import Derived.Laws.BytesString
set_option linter.unusedVariables false
set_option linter.unusedSimpArgs false
/- Walking in numbers of one's own: what the operations do that read or write memory. -/
namespace Go.Proofs.YtdenooeaiicheaaGreat.Av
/-! ### lists -/
/-- cells from o on, as many as vs, replaced by vs. -/
inductive SpliceR : List Value → Nat → List Value → List Value → Prop
  | nil {l} : SpliceR l 0 [] l
  | cons {a l v vs l'} : SpliceR l 0 vs l' → SpliceR (a :: l) 0 (v :: vs) (v :: l')
  | skip {a l n vs l'} : SpliceR l n vs l' → SpliceR (a :: l) (n + 1) vs (a :: l')
/-- n cells from o on. -/
inductive TakeR : List Value → Nat → Nat → List Value → Prop
  | nil {l} : TakeR l 0 0 []
  | cons {a l n l'} : TakeR l 0 n l' → TakeR (a :: l) 0 (n + 1) (a :: l')
  | skip {a l o n l'} : TakeR l o n l' → TakeR (a :: l) (o + 1) n l'
theorem SpliceR.spec {l o vs l'} (h : SpliceR l o vs l') : o + vs.length ≤ l.length ∧ l'.length = l.length ∧ (∀ j, j < vs.length → l'[o + j]? = vs[j]?) ∧ (∀ j, j < o ∨ o + vs.length ≤ j → l'[j]? = l[j]?) := by
  induction h with
  | nil => simp
  | cons h ih =>
    obtain ⟨h1, h2, h3, h4⟩ := ih
    refine ⟨by simp at *; omega, by simp [h2], fun j hj => ?_, fun j hj => ?_⟩
    · cases j with
      | zero => simp
      | succ j => have := h3 j (by simpa using hj); simpa using this
    · cases j with
      | zero => simp at hj
      | succ j => have := h4 j (by simp at hj; omega); simpa using this
  | skip h ih =>
    obtain ⟨h1, h2, h3, h4⟩ := ih
    refine ⟨by simp at *; omega, by simp [h2], fun j hj => ?_, fun j hj => ?_⟩
    · have := h3 j hj
      rw [show ∀ n : Nat, n + 1 + j = (n + j) + 1 from fun n => by omega]
      simpa using this
    · cases j with
      | zero => simp
      | succ j => have := h4 j (by omega); simpa using this
theorem TakeR.spec {l o n xs} (h : TakeR l o n xs) : xs.length = n ∧ ∀ j, j < n → l[o + j]? = xs[j]? := by
  induction h with
  | nil => simp
  | cons h ih =>
    obtain ⟨h1, h2⟩ := ih
    refine ⟨by simp [h1], fun j hj => ?_⟩
    cases j with
    | zero => simp
    | succ j => have := h2 j (by omega); simpa using this
  | skip h ih =>
    obtain ⟨h1, h2⟩ := ih
    refine ⟨h1, fun j hj => ?_⟩
    have := h2 j hj
    rw [show ∀ n : Nat, n + 1 + j = (n + j) + 1 from fun n => by omega]
    simpa using this
theorem TakeR.eq {l o n xs} (h : TakeR l o n xs) : (l.drop o).take n = xs := by
  induction h with
  | nil => simp
  | cons h ih => simpa using ih
  | skip h ih => simpa using ih
theorem take_full {l : List Value} {n : Nat} (h : l.length = n) : (l.drop 0).take n = l := by subst h; simp
theorem SpliceR.of {l : List Value} {o : Nat} {vs : List Value} : o + vs.length ≤ l.length → SpliceR l o vs (l.take o ++ vs ++ l.drop (o + vs.length)) := by
  induction l generalizing o vs with
  | nil =>
    intro h
    have h1 : o = 0 := by simp only [List.length_nil] at h; omega
    have h2 : vs = [] := List.eq_nil_of_length_eq_zero (by simp only [List.length_nil] at h; omega)
    subst h1 h2
    exact .nil
  | cons a l ih =>
    intro h
    cases o with
    | zero =>
      cases vs with
      | nil => exact .nil
      | cons v vs =>
        have := ih (o := 0) (vs := vs) (by simp at h ⊢; omega)
        simpa using SpliceR.cons this
    | succ o =>
      have := ih (o := o) (vs := vs) (by simp at h ⊢; omega)
      rw [show o + 1 + vs.length = (o + vs.length) + 1 by omega]
      simpa using SpliceR.skip (a := a) this
theorem splice_map {α : Type} {f : α → Value} {x : α} {l : List α} {o j : Nat} (hj : o = j) (h : j < l.length) : SpliceR (l.map f) o [f x] ((l.set j x).map f) := by
  subst hj
  induction l generalizing o with
  | nil => simp at h
  | cons a l ih =>
    cases o with
    | zero => exact .cons .nil
    | succ o => exact .skip (ih (by simpa using h))
theorem splice_ints {k : IntKind} {x : Int} {l : List Int} {o j : Nat} (hj : o = j) (h : j < l.length) : SpliceR (l.map (Value.int k)) o [.int k x] ((l.set j x).map (Value.int k)) := splice_map (f := Value.int k) hj h
theorem TakeR.of {l : List Value} {o n : Nat} : o + n ≤ l.length → TakeR l o n ((l.drop o).take n) := by
  induction l generalizing o n with
  | nil =>
    intro h
    have h1 : o = 0 := by simp only [List.length_nil] at h; omega
    have h2 : n = 0 := by simp only [List.length_nil] at h; omega
    subst h1 h2
    exact .nil
  | cons a l ih =>
    intro h
    cases o with
    | zero =>
      cases n with
      | zero => exact .nil
      | succ n => simpa using TakeR.cons (a := a) (ih (o := 0) (n := n) (by simp at h ⊢; omega))
    | succ o => simpa using TakeR.skip (a := a) (ih (o := o) (n := n) (by simp at h ⊢; omega))
theorem exists_list (p : Nat → Value → Prop) : ∀ n, (∀ j, j < n → ∃ y, p j y) → ∃ ys : List Value, ys.length = n ∧ ∀ j y, ys[j]? = some y → p j y
  | 0, _ => ⟨[], rfl, fun j y h => by simp at h⟩
  | n + 1, h => by
    obtain ⟨ys, h1, h2⟩ := exists_list p n fun j hj => h j (by omega)
    obtain ⟨y, hy⟩ := h n (by omega)
    refine ⟨ys ++ [y], by simp [h1], fun j z hz => ?_⟩
    rw [List.getElem?_append] at hz
    split at hz
    · exact h2 j z hz
    · rename_i hj
      have : j = n := by
        rcases Nat.lt_or_ge j (n + 1) with h' | h'
        · omega
        · rw [List.getElem?_eq_none (by simp; omega)] at hz; cases hz
      subst this
      have e : j - ys.length = 0 := by omega
      rw [e] at hz
      simp at hz
      exact hz ▸ hy
/-! ### memory -/
theorem VR.ptr' {μ : Mu} {id o y} (h : VR μ (.pointer (some ⟨id, o, none⟩)) y) : ∃ L, μ id = some L ∧ y = .pointer (some ⟨L.b, L.o + o, none⟩) := by
  cases h with
  | ptr hL => exact ⟨_, hL, rfl⟩
theorem VR.agg' {μ : Mu} {xs y} (h : VR μ (.agg xs) y) : ∃ ys : Array Value, y = .agg ys ∧ xs.size = ys.size ∧ ∀ (i : Nat) u v, xs[i]? = some u → ys[i]? = some v → VR μ u v := by
  cases h with
  | agg a b => exact ⟨_, rfl, a, b⟩
theorem VR.tuple' {μ : Mu} {xs y} (h : VR μ (.tuple xs) y) : ∃ ys : Array Value, y = .tuple ys ∧ xs.size = ys.size ∧ ∀ (i : Nat) u v, xs[i]? = some u → ys[i]? = some v → VR μ u v := by
  cases h with
  | tuple a b => exact ⟨_, rfl, a, b⟩
theorem VR.cells {μ : Mu} {x y} (h : VR μ x y) : x.cells.size = y.cells.size ∧ ∀ (i : Nat) u v, x.cells[i]? = some u → y.cells[i]? = some v → VR μ u v := by
  have h0 := h
  cases h with
  | agg a b => exact ⟨a, b⟩
  | _ =>
    refine ⟨rfl, fun i u v hu hv => ?_⟩
    cases i <;> simp [Value.cells] at hu hv
    subst hu hv
    assumption
theorem add_off (b o j : Nat) : (⟨b, o, none⟩ : Addr).add j = ⟨b, o + j, none⟩ := by unfold Addr.add; split <;> simp_all
section
variable {F : Nat → Prop} {w0 : World} {μ : Mu} {m : Mem} {w : World}
theorem RepM.cells (h : RepM F w0 μ m w) {id : Nat} {B : Blk} {L : Loc} (hB : live m id = some B) (hz : B.z ≠ mapZ) (hL : μ id = some L) : CellsC μ B.cells L.b L.o w := by
  obtain ⟨L', h1, h2, _⟩ := h.blk id B hB
  rw [hL] at h1; cases h1
  exact fun j x hx => h2.cells.cell hz hx
theorem RepM.loadN {P : Program} (h : RepM F w0 μ m w) {id o n : Nat} {B : Blk} {L : Loc} {xs : List Value} (hB : live m id = some B) (hz : B.z ≠ mapZ) (hL : μ id = some L) (hx : TakeR B.cells o n xs) :
    ∃ ys : List Value, (loadCells ⟨L.b, L.o + o, none⟩ n).run P w = .ok ys.toArray w ∧ ys.length = n ∧ ∀ (j : Nat) x y, xs[j]? = some x → ys[j]? = some y → VR μ x y := by
  have hc := h.cells hB hz hL
  obtain ⟨t1, t2⟩ := hx.spec
  obtain ⟨ys, h1, h2⟩ := exists_list (fun j y => w.cell? ⟨L.b, L.o + o + j, none⟩ = some y ∧ ∀ x, xs[j]? = some x → VR μ x y) n fun j hj => by
    have hj' : j < xs.length := by omega
    obtain ⟨y, k1, k2⟩ := hc (o + j) xs[j] (by rw [t2 j hj]; exact List.getElem?_eq_getElem hj')
    refine ⟨y, by rw [Nat.add_assoc]; exact k1, fun x hx => ?_⟩
    rw [List.getElem?_eq_getElem hj'] at hx
    cases hx; exact k2
  refine ⟨ys, ?_, h1, fun j x y hx hy => (h2 j y hy).2 x hx⟩
  rw [← h1]
  exact run_loadCells_list w _ ys fun j v hv => by rw [add_off]; exact (h2 j v hv).1
theorem setCells_heap (b : Nat) {e : TypeId} {fr : Nat × Nat} : ∀ (vs : List Value) (o : Nat) (w : World) (c : Array Value), w.heap[b]? = some (.cells c e fr) → o + vs.length ≤ c.size →
    (w.setCells b o vs).os = w.os ∧ (w.setCells b o vs).tape = w.tape ∧ (w.setCells b o vs).output = w.output ∧ (w.setCells b o vs).heap.size = w.heap.size ∧ (∀ k, k ≠ b → (w.setCells b o vs).heap[k]? = w.heap[k]?) ∧
    ∃ c' : Array Value, (w.setCells b o vs).heap[b]? = some (.cells c' e fr) ∧ c'.size = c.size ∧ (∀ j, j < vs.length → c'[o + j]? = vs[j]?) ∧ ∀ j, j < o ∨ o + vs.length ≤ j → c'[j]? = c[j]?
  | [], o, w, c, h, _ => ⟨rfl, rfl, rfl, rfl, fun _ _ => rfl, c, h, rfl, fun j hj => by simp at hj, fun _ _ => rfl⟩
  | v :: vs, o, w, c, h, hl => by
    have h1 : (w.setCell ⟨b, o, none⟩ v).heap[b]? = some (.cells (c.setIfInBounds o v) e fr) := by
      simp [World.setCell, Array.getElem?_modify, h]
    have hl' : o + 1 + vs.length ≤ c.size := by simp at hl; omega
    obtain ⟨a1, a2, a3, a4, a5, c', a6, a7, a8, a9⟩ := setCells_heap b vs (o + 1) (w.setCell ⟨b, o, none⟩ v) _ h1 (by simpa using hl')
    refine ⟨a1, a2, a3, a4.trans (by simp), fun k hk => (a5 k hk).trans (by simp [World.setCell, Array.getElem?_modify, Ne.symm hk]), c', a6, a7.trans (by simp), fun j hj => ?_, fun j hj => ?_⟩
    · cases j with
      | zero =>
        rw [Nat.add_zero, a9 o (by omega)]
        simp [show o < c.size by omega]
      | succ j =>
        have := a8 j (by simp at hj; omega)
        rw [show o + (j + 1) = o + 1 + j by omega, this]
        simp
    · rw [a9 j (by simp at hj; omega)]
      simp [show o ≠ j by simp at hj; omega]
theorem RepM.row (h : RepM F w0 μ m w) {id : Nat} {B : Blk} {L : Loc} (hB : live m id = some B) (hz : B.z ≠ mapZ) (hL : μ id = some L) (hr : B.rw = true) (hb : Takes B L) : RowOK L w := by
  obtain ⟨L', h1, h2, _⟩ := h.blk id B hB
  rw [hL] at h1; cases h1
  exact (h2.row (.inl (h2.rw hr)) hb).row hz
/-- Cells of a block of one's own are stored. -/
theorem RepM.storeN {P : Program} (h : RepM F w0 μ m w) {id o : Nat} {B : Blk} {L : Loc} {xs cs' ys : List Value} (hB : live m id = some B) (hz : B.z ≠ mapZ) (hr : B.rw = true) (hL : μ id = some L) (hs : SpliceR B.cells o xs cs') (hx0 : 0 < xs.length)
    (hlen : xs.length = ys.length) (hv : ∀ (j : Nat) x y, xs[j]? = some x → ys[j]? = some y → VR μ x y) (h1 : ∀ y ∈ ys, y.oneCell' = true) :
    ∃ w', (storeCells ⟨L.b, L.o + o, none⟩ ys).run P w = .ok () w' ∧ RepM F w0 μ (m.set id (some { B with cells := cs' })) w' := by
  obtain ⟨s1, s2, s3, s4⟩ := hs.spec
  obtain ⟨c, e, lo, hi, r1, r2, r3⟩ := h.row hB hz hL hr (.inr (by intro h0; rw [h0] at s1; simp only [List.length_nil] at s1; omega))
  have hc := h.cells hB hz hL
  have hcell : ∀ j, w.cell? ⟨L.b, j, none⟩ = c[j]? := fun j => by simp [World.cell?, r1]
  have hin : ∀ j, j < B.cells.length → L.o + j < c.size := fun j hj => by
    obtain ⟨y, k1, _⟩ := hc j B.cells[j] (List.getElem?_eq_getElem hj)
    rw [hcell] at k1
    rcases Nat.lt_or_ge (L.o + j) c.size with h' | h'
    · exact h'
    · rw [Array.getElem?_eq_none h'] at k1; cases k1
  have hfit : L.o + o + ys.length ≤ c.size := by
    have := hin (o + xs.length - 1) (by omega)
    omega
  have hst := run_storeCells_cells (P := P) L.b (L.o + o) ys 0 w (fun j hj => by
      rw [hcell]; simp; omega) (fun j hj => by
      simp only [World.frozen?, r1]
      have := r3.2 (L.o + o + 0 + j) (by omega)
      simpa using this) h1
  refine ⟨_, hst, ?_⟩
  rw [Nat.add_zero]
  obtain ⟨a1, a2, a3, a4, a5, c', a6, a7, a8, a9⟩ := setCells_heap L.b ys (L.o + o) w c r1 hfit
  refine h.writeC hB hz hL ⟨hr, by omega⟩ a1 a2 a3 a4 a5 ⟨c', e, lo, hi, a6, a7.trans r2, r3.1, fun j hj => r3.2 j (by omega)⟩ fun j x hx => ?_
  have hcell' : (w.setCells L.b (L.o + o) ys).cell? ⟨L.b, L.o + j, none⟩ = c'[L.o + j]? := by simp [World.cell?, a6]
  rw [hcell']
  by_cases hj : o ≤ j ∧ j < o + xs.length
  · have e1 := s3 (j - o) (by omega)
    rw [show o + (j - o) = j by omega, hx] at e1
    have e2 := a8 (j - o) (by omega)
    rw [show L.o + o + (j - o) = L.o + j by omega] at e2
    have hlt : j - o < ys.length := by omega
    exact ⟨ys[j - o], by rw [e2]; exact List.getElem?_eq_getElem hlt, hv (j - o) x _ e1.symm (List.getElem?_eq_getElem hlt)⟩
  · rw [s4 j (by omega)] at hx
    obtain ⟨y, k1, k2⟩ := hc j x hx
    exact ⟨y, by rw [a9 (L.o + j) (by omega), ← hcell]; exact k1, k2⟩
end
end Go.Proofs.YtdenooeaiicheaaGreat.Av
/- Walking in numbers of one's own: the operations that read or write memory. -/
namespace Go.Proofs.YtdenooeaiicheaaGreat.Av
/-- A block is added: m' is m with B behind it; its number is n. -/
inductive AppR (B : Option Blk) : Mem → Mem → Nat → Prop
  | nil : AppR B [] [B] 0
  | cons {x m m' n} : AppR B m m' n → AppR B (x :: m) (x :: m') (n + 1)
theorem AppR.spec {B m m' n} (h : AppR B m m' n) : m' = m ++ [B] ∧ n = m.length := by induction h <;> simp [*]
/-- A block is replaced. -/
inductive SetR (B : Option Blk) : Mem → Nat → Mem → Prop
  | zero {x m} : SetR B (x :: m) 0 (B :: m)
  | succ {x m n m'} : SetR B m n m' → SetR B (x :: m) (n + 1) (x :: m')
theorem SetR.spec {B m n m'} (h : SetR B m n m') : m' = m.set n B := by induction h <;> simp [*]
/-- A list written out. -/
inductive ListR : List Value → List Value → Prop
  | nil : ListR [] []
  | cons {x l l'} : ListR l l' → ListR (x :: l) (x :: l')
theorem ListR.spec {l l'} (h : ListR l l') : l = l' := by induction h <;> simp [*]
theorem ListR.refl (l : List Value) : ListR l l := by
  induction l with
  | nil => exact .nil
  | cons x l ih => exact .cons ih
theorem field_get {P : Program} {t : TypeId} {fs : List (TypeId × Nat)} [h : TyF P t fs] {i : Nat} {x} (hx : fs[i]? = some x) : ∃ gs f, P.underlying t = some (.struct gs) ∧ gs[i]? = some f ∧ x = (f.type, f.offset) := by
  obtain ⟨gs, h1, h2⟩ := h.eq
  subst h2
  rw [List.getElem?_map, Array.getElem?_toList] at hx
  cases hf : gs[i]? with
  | none => rw [hf] at hx; cases hx
  | some f => rw [hf] at hx; simp at hx; exact ⟨gs, f, h1, hf, hx.symm⟩
/-- The part of an aggregate at an offset. -/
inductive PartR (P : Program) (e : TypeId) (cs : List Value) (o : Nat) : Value → Prop
  | one {d v} : P.underlying e = some d → aggD d = false → TakeR cs o 1 [v] → PartR P e cs o v
  | agg {d n b z xs} : P.underlying e = some d → aggD d = true → TyI P e n b z → TakeR cs o n xs → PartR P e cs o (.agg xs.toArray)
theorem take_vr {μ : Mu} {xs ys : Array Value} {l : List Value} {o n : Nat} (hs : xs.size = ys.size) (h : ∀ (i : Nat) u v, xs[i]? = some u → ys[i]? = some v → VR μ u v) (ht : TakeR xs.toList o n l) (ho : o + n ≤ xs.size) :
    (ys.extract o (o + n)).size = n ∧ l.length = n ∧ ∀ (i : Nat) u v, l[i]? = some u → (ys.extract o (o + n))[i]? = some v → VR μ u v := by
  obtain ⟨t1, t2⟩ := ht.spec
  refine ⟨by simp; omega, t1, fun i u v hu hv => ?_⟩
  have hi : i < n := by
    rcases Nat.lt_or_ge i n with h' | h'
    · exact h'
    · rw [List.getElem?_eq_none (by omega)] at hu; cases hu
  rw [← t2 i hi, Array.getElem?_toList] at hu
  refine h (o + i) u v hu ?_
  rw [Array.getElem?_extract] at hv
  split at hv
  · exact hv
  · cases hv
theorem TakeR.le {l o n xs} (h : TakeR l o n xs) : o + n ≤ l.length := by
  induction h with
  | nil => simp
  | cons _ ih => simp; omega
  | skip _ ih => simp; omega
theorem run_part {P : Program} {μ : Mu} {e : TypeId} {xs ys : Array Value} {o : Nat} {v : Value} (hs : xs.size = ys.size) (h : ∀ (i : Nat) u v, xs[i]? = some u → ys[i]? = some v → VR μ u v) (hp : PartR P e xs.toList o v) (w : World) :
    ∃ y, (part e ys o).run P w = .ok y w ∧ VR μ v y := by
  cases hp with
  | one hd ha ht =>
    have hle := ht.le
    rw [Array.length_toList] at hle
    obtain ⟨t1, t2⟩ := ht.spec
    have hy : ys[o]? = some ys[o] := Array.getElem?_eq_getElem (by omega)
    have hx := t2 0 (by omega)
    simp only [Nat.add_zero, Array.getElem?_toList, List.getElem?_cons_zero] at hx
    exact ⟨ys[o], by simp [part, run_isAgg hd, ha, hy], h o _ _ hx hy⟩
  | agg hd ha hi ht =>
    obtain ⟨i, z, h1, h2, _⟩ := hi.ex
    have hle := ht.le
    rw [Array.length_toList] at hle
    obtain ⟨k1, k2, k3⟩ := take_vr hs h ht hle
    refine ⟨_, by simp only [part, Sem.run_bind, run_isAgg hd, ha, Result.andThen_ok, if_true, run_size h1, h2]; rfl, .agg (by simp [k1, k2]) fun i u v hu hv => k3 i u v (by simpa using hu) hv⟩
section
variable {P : Program} {ρ : Operand → Option Value} {m : Mem} {d : Option Tmp} {t : TypeId} {pp : String} {af : Array Edge} {g : Option (Nat × Bool)}
theorem ok_extract {x : Operand} {vs : Array Value} {i : Nat} {v : Value} (hx : ρ x = some (.tuple vs)) (hv : vs.toList[i]? = some v) : OpOK P ⟨d, .extract x i, t, pp, af, g⟩ ρ m v m := .val fun _ _ _ A w _ _ ho => by
  obtain ⟨ys, e, h1, h2⟩ := (ho x _ (by simp [Op.operands]) hx).tuple'
  rw [Array.getElem?_toList] at hv
  have hlt : i < vs.size := by
    rcases Nat.lt_or_ge i vs.size with h' | h'
    · exact h'
    · rw [Array.getElem?_eq_none h'] at hv; cases hv
  have hy : ys[i]? = some ys[i] := Array.getElem?_eq_getElem (by omega)
  exact ⟨ys[i], by simp [execOp, e, Instr.extract, hy], h2 i v _ hv hy⟩
theorem ok_field {xt : TypeId} {x : Operand} {f : Nat} {fs : List (TypeId × Nat)} {xs : Array Value} {ft : TypeId} {o : Nat} {v : Value} [TyF P xt fs] (hx : ρ x = some (.agg xs)) (hf : fs[f]? = some (ft, o)) (hp : PartR P ft xs.toList o v) :
    OpOK P ⟨d, .field xt x f, t, pp, af, g⟩ ρ m v m := .val fun _ _ μ A w _ _ ho => by
  obtain ⟨ys, e, h1, h2⟩ := (ho x _ (by simp [Op.operands]) hx).agg'
  obtain ⟨gs, fd, k0, k1, k2⟩ := field_get (P := P) (t := xt) hf
  cases k2
  obtain ⟨y, j1, j2⟩ := run_part h1 h2 hp w
  exact ⟨y, by simp [execOp, e, Instr.field, run_und k0, k1, asAgg, j1], j2⟩
theorem ok_index {xt : TypeId} {x y : Operand} {xs : Array Value} {n : Nat} {e : TypeId} {k : IntKind} {i : Int} {v : Value} {sz b z} [Ty P xt (.array n e)] [TyI P e sz b z] (hx : ρ x = some (.agg xs)) (hy : ρ y = some (.int k i)) (h : 0 ≤ i ∧ i < n) (hp : PartR P e xs.toList (i.toNat * sz) v) :
    OpOK P ⟨d, .index xt x y, t, pp, af, g⟩ ρ m v m := .val fun _ _ μ A w _ _ ho => by
  obtain ⟨ys, e1, h1, h2⟩ := (ho x _ (by simp [Op.operands]) hx).agg'
  have e2 := (ho y _ (by simp [Op.operands]) hy).int'
  obtain ⟨ti, _, k1, k2, _⟩ := TyI.ex (P := P) (t := e)
  obtain ⟨y, j1, j2⟩ := run_part h1 h2 hp w
  refine ⟨y, ?_, j2⟩
  simp only [execOp, e1, e2, Instr.index, asIntOf, Sem.run_bind, Sem.run_pure, Result.andThen_ok, run_und (Ty.eq (P := P) (t := xt)), h, and_self, if_true, run_size k1, k2, j1]
theorem ok_fieldAddr {xt : TypeId} {x : Operand} {f : Nat} {fs : List (TypeId × Nat)} {id o : Nat} {ft : TypeId} {o' n b : Nat} {z} [TyF P xt fs] (hx : ρ x = some (.pointer (some ⟨id, o, none⟩))) (hf : fs[f]? = some (ft, o')) (ht : TyI P ft n b z) (hn : Nat.beq n 0 = false) :
    OpOK P ⟨d, .fieldAddr xt x f, t, pp, af, g⟩ ρ m (.pointer (some ⟨id, o + o', none⟩)) m := .val fun _ _ μ A w _ _ ho => by
  obtain ⟨L, hL, e⟩ := (ho x _ (by simp [Op.operands]) hx).ptr'
  obtain ⟨gs, fd, k0, k1, k2⟩ := field_get (P := P) (t := xt) hf
  cases k2
  obtain ⟨ti, _, j1, j2, _⟩ := TyI.ex (P := P) (t := fd.type)
  have hn0 : ti.size ≠ 0 := by rw [j2]; intro h; rw [h] at hn; cases hn
  refine ⟨.pointer (some ⟨L.b, L.o + (o + fd.offset), none⟩), ?_, .ptr hL⟩
  have hplace : (fieldPlace ⟨L.b, L.o + o, none⟩ fd).run P w = .ok ⟨L.b, L.o + (o + fd.offset), none⟩ w := by
    simp only [fieldPlace, Sem.run_bind, run_size j1, Result.andThen_ok, hn0, if_false, Sem.run_pure, add_off]
    rw [Nat.add_assoc]
  simp [execOp, e, Instr.fieldAt, run_und k0, k1, Instr.sureAddr, hplace]
/-- An element's address, of a slice. -/
theorem ok_indexAddr_slice {xt : TypeId} {x y : Operand} {id o n c : Nat} {e : TypeId} {k : IntKind} {i : Int} {sz b z} [Ty P xt (.slice e)] [TyI P e sz b z] (hx : ρ x = some (.slice (some ⟨id, o, none⟩) n c)) (hy : ρ y = some (.int k i)) (h : 0 ≤ i ∧ i < n) :
    OpOK P ⟨d, .indexAddr xt x y, t, pp, af, g⟩ ρ m (.pointer (some ⟨id, o + i.toNat * sz, none⟩)) m := .val fun _ _ μ A w _ _ ho => by
  have e2 := (ho y _ (by simp [Op.operands]) hy).int'
  obtain ⟨ti, _, k1, k2, _⟩ := TyI.ex (P := P) (t := e)
  have hv := ho x _ (by simp [Op.operands]) hx
  generalize hX : A.eval x = X at hv
  cases hv with
  | slc hL hc hb ho hr =>
    rename_i cap b off L
    have hn : n ≠ 0 := by omega
    have := hb (.inl hn); subst this
    have := ho hn; subst this
    refine ⟨_, ?_, .ptr hL⟩
    simp only [execOp, hX, e2, Instr.indexAt, asIntOf, Sem.run_bind, Sem.run_pure, Result.andThen_ok, run_und (Ty.eq (P := P) (t := xt)), h, and_self, if_true, run_size k1, k2, add_off]
    rw [Nat.add_assoc]
  | slcNil => omega
/-- An element's address, of an array. -/
theorem ok_indexAddr_array {xt : TypeId} {x y : Operand} {id o n : Nat} {e : TypeId} {k : IntKind} {i : Int} {sz b z} [Ty P xt (.array n e)] [TyI P e sz b z] (hx : ρ x = some (.pointer (some ⟨id, o, none⟩))) (hy : ρ y = some (.int k i)) (h : 0 ≤ i ∧ i < n) :
    OpOK P ⟨d, .indexAddr xt x y, t, pp, af, g⟩ ρ m (.pointer (some ⟨id, o + i.toNat * sz, none⟩)) m := .val fun _ _ μ A w _ _ ho => by
  have e2 := (ho y _ (by simp [Op.operands]) hy).int'
  obtain ⟨ti, _, k1, k2, _⟩ := TyI.ex (P := P) (t := e)
  obtain ⟨L, hL, hX⟩ := (ho x _ (by simp [Op.operands]) hx).ptr'
  refine ⟨_, ?_, .ptr hL⟩
  simp only [execOp, hX, e2, Instr.indexAt, Instr.sureAddr, asIntOf, Sem.run_bind, Sem.run_pure, Result.andThen_ok, run_und (Ty.eq (P := P) (t := xt)), h, and_self, if_true, run_size k1, k2, add_off]
  rw [Nat.add_assoc]
theorem ok_nilCheck {x : Operand} {ad : Addr} (hx : ρ x = some (.pointer (some ad))) : OpOK P ⟨d, .nilCheck x, t, pp, af, g⟩ ρ m (.pointer (some ad)) m := .val fun _ _ μ A w _ _ ho => by
  have h := ho x _ (by simp [Op.operands]) hx
  generalize hX : A.eval x = X at h
  have h' := h
  cases h with
  | ptr hL => exact ⟨_, by simp [execOp, hX], h'⟩
theorem ok_nilCheck_func {x : Operand} {f a b} (hx : ρ x = some (.func (.func f) a b)) : OpOK P ⟨d, .nilCheck x, t, pp, af, g⟩ ρ m (.func (.func f) a b) m := .val fun _ _ μ A w _ _ ho => by
  have h := ho x _ (by simp [Op.operands]) hx
  generalize hX : A.eval x = X at h
  have h' := h
  cases h with
  | func _ _ _ _ => exact ⟨_, by simp [execOp, hX], h'⟩
theorem ok_min {x y : Operand} {k k' a b t1 t2 ct} (hx : ρ x = some (.int k a)) (hy : ρ y = some (.int k' b)) : OpOK P ⟨d, .call ⟨.builtin .min, #[x, y], #[t1, t2]⟩, ct, pp, af, g⟩ ρ m (.int k (min a b)) m := .val fun _ _ μ A w _ _ ho => by
  have h1 := (ho x _ (by simp [Op.operands, Call.operands]) hx).int'
  have h2 := (ho y _ (by simp [Op.operands, Call.operands]) hy).int'
  refine ⟨.int k (min a b), ?_, .int _ _⟩
  have : (if b < a then b else a) = min a b := by split <;> omega
  simp [execOp, resolve, invoke, builtin, Builtin.min_, Builtin.min2, h1, h2, this]
theorem ok_max {x y : Operand} {k k' a b t1 t2 ct} (hx : ρ x = some (.int k a)) (hy : ρ y = some (.int k' b)) : OpOK P ⟨d, .call ⟨.builtin .max, #[x, y], #[t1, t2]⟩, ct, pp, af, g⟩ ρ m (.int k (max a b)) m := .val fun _ _ μ A w _ _ ho => by
  have h1 := (ho x _ (by simp [Op.operands, Call.operands]) hx).int'
  have h2 := (ho y _ (by simp [Op.operands, Call.operands]) hy).int'
  refine ⟨.int k (max a b), ?_, .int _ _⟩
  have : (if a < b then b else a) = max a b := by split <;> omega
  simp [execOp, resolve, invoke, builtin, Builtin.max_, Builtin.max2, h1, h2, this]
/-! ### loads and stores -/
theorem ok_load {t' : TypeId} {x : Operand} {id o : Nat} {B : Blk} {v : Value} {D} [Ty P t' D] (hx : ρ x = some (.pointer (some ⟨id, o, none⟩))) (hB : live m id = some B) (hD : aggD D = false) (hv : TakeR B.cells o 1 [v]) (hz : Nat.beq B.z mapZ = false := by rfl) :
    OpOK P ⟨d, .load t' x, t, pp, af, g⟩ ρ m v m := .val fun _ _ μ A w _ hm ho => by
  obtain ⟨L, hL, hX⟩ := (ho x _ (by simp [Op.operands]) hx).ptr'
  have h0 := (hv.spec).2 0 (by omega)
  obtain ⟨y, h1, h2⟩ := hm.cells hB (notMap hz) hL o v (by simpa using h0)
  exact ⟨y, by simp [execOp, hX, Instr.loadAt, Instr.sureAddr, loadVar, run_isAgg (Ty.eq (P := P) (t := t')), hD, h1], h2⟩
theorem ok_load_at {t' : TypeId} {x : Operand} {id o : Nat} {B : Blk} {v : Value} {D} [Ty P t' D] (hx : ρ x = some (.pointer (some ⟨id, o, none⟩))) (hB : live m id = some B) (hD : aggD D = false) (hv : B.cells[o]? = some v) (hz : Nat.beq B.z mapZ = false := by rfl) :
    OpOK P ⟨d, .load t' x, t, pp, af, g⟩ ρ m v m := .val fun _ _ μ A w _ hm ho => by
  obtain ⟨L, hL, hX⟩ := (ho x _ (by simp [Op.operands]) hx).ptr'
  obtain ⟨y, h1, h2⟩ := hm.cells hB (notMap hz) hL o v hv
  exact ⟨y, by simp [execOp, hX, Instr.loadAt, Instr.sureAddr, loadVar, run_isAgg (Ty.eq (P := P) (t := t')), hD, h1], h2⟩
/-- An element of a row that is a list's. -/
theorem ok_load_map {t' : TypeId} {α : Type} [Inhabited α] {f : α → Value} {l : List α} {r : Bool} {z : Nat} {x : Operand} {id o j : Nat} {D} [Ty P t' D] (hx : ρ x = some (.pointer (some ⟨id, o, none⟩))) (hB : live m id = some ⟨l.map f, r, z⟩) (hD : aggD D = false) (hj : o = j) (hi : j < l.length) (hz : Nat.beq z mapZ = false := by rfl) :
    OpOK P ⟨d, .load t' x, t, pp, af, g⟩ ρ m (f (l.getD j default)) m := by
  subst hj
  exact ok_load_at hx hB hD (by rw [List.getElem?_map, List.getElem?_eq_getElem hi, List.getD_eq_getElem?_getD, List.getElem?_eq_getElem hi]; rfl) hz
theorem ok_load_ints {t' : TypeId} {k : IntKind} {l : List Int} {r : Bool} {z : Nat} {x : Operand} {id o j : Nat} {D} [Ty P t' D] (hx : ρ x = some (.pointer (some ⟨id, o, none⟩))) (hB : live m id = some ⟨l.map (Value.int k), r, z⟩) (hD : aggD D = false) (hj : o = j) (hi : j < l.length) (hz : Nat.beq z mapZ = false := by rfl) :
    OpOK P ⟨d, .load t' x, t, pp, af, g⟩ ρ m (.int k (l.getD j 0)) m := ok_load_map hx hB hD hj hi hz
theorem ok_loadN {t' : TypeId} {x : Operand} {id o n b : Nat} {z} {B : Blk} {xs : List Value} {D} [Ty P t' D] [TyI P t' n b z] (hx : ρ x = some (.pointer (some ⟨id, o, none⟩))) (hB : live m id = some B) (hD : aggD D = true) (hv : TakeR B.cells o n xs) (hz : Nat.beq B.z mapZ = false := by rfl) :
    OpOK P ⟨d, .load t' x, t, pp, af, g⟩ ρ m (.agg xs.toArray) m := .val fun _ _ μ A w _ hm ho => by
  obtain ⟨L, hL, hX⟩ := (ho x _ (by simp [Op.operands]) hx).ptr'
  obtain ⟨ti, _, k1, k2, _⟩ := TyI.ex (P := P) (t := t')
  obtain ⟨ys, h1, h2, h3⟩ := hm.loadN (P := P) hB (notMap hz) hL hv
  have hl := hv.spec.1
  refine ⟨.agg ys.toArray, ?_, .agg (by simp [h2, hl]) fun i u v hu hv => h3 i u v (by simpa using hu) (by simpa using hv)⟩
  simp [execOp, hX, Instr.loadAt, Instr.sureAddr, loadVar, run_isAgg (Ty.eq (P := P) (t := t')), hD, run_size k1, k2, h1]
theorem cells_oneCell {μ : Mu} {v y : Value} (h : VR μ v y) (h1 : v.cells.toList.all (·.oneCell') = true) : ∀ u ∈ y.cells.toList, u.oneCell' = true := by
  obtain ⟨hs, hr⟩ := h.cells
  intro u hu
  obtain ⟨i, hi⟩ := List.mem_iff_getElem?.1 hu
  rw [Array.getElem?_toList] at hi
  have hlt : i < v.cells.size := by
    rcases Nat.lt_or_ge i v.cells.size with h' | h'
    · exact h'
    · rw [Array.getElem?_eq_none (by omega)] at hi; cases hi
  have hx : v.cells[i]? = some v.cells[i] := Array.getElem?_eq_getElem hlt
  rw [(hr i _ u hx hi).oneCell]
  exact List.all_eq_true.1 h1 _ (by simp)
theorem ok_storeN {t' : TypeId} {x y : Operand} {id o n b : Nat} {z} {bc : List Value} {z0 : Nat} {v : Value} {vs cs' : List Value} {m' : Mem} [TyI P t' n b z] (hx : ρ x = some (.pointer (some ⟨id, o, none⟩))) (hy : ρ y = some v) (hvs : ListR v.cells.toList vs) (hB : live m id = some ⟨bc, true, z0⟩)
    (hn : Nat.beq vs.length n = true) (h0 : Nat.blt 0 n = true) (h1 : vs.all (·.oneCell') = true) (hs : SpliceR bc o vs cs') (hm' : SetR (some ⟨cs', true, z0⟩) m id m') (hz : Nat.beq z0 mapZ = false := by rfl) :
    OpOK P ⟨d, .store t' x y, t, pp, af, g⟩ ρ m undef m' := .skip fun F w0 μ A w hd hm ho => by
  obtain ⟨L, hL, hX⟩ := (ho x _ (by simp [Op.operands]) hx).ptr'
  have hv := ho y _ (by simp [Op.operands]) hy
  obtain ⟨ti, _, k1, k2, _⟩ := TyI.ex (P := P) (t := t')
  obtain ⟨c1, c2⟩ := hv.cells
  have hvs := hvs.spec
  have hm' := hm'.spec
  subst hvs hm'
  have hn := Nat.eq_of_beq_eq_true hn
  have h0 := Nat.blt_eq.mp h0
  obtain ⟨w', h3, h4⟩ := hm.storeN (P := P) hB (notMap hz) rfl hL hs (by omega) (ys := (A.eval y).cells.toList) (by simpa using c1) (fun j u v hu hv => c2 j u v (by simpa using hu) (by simpa using hv)) (cells_oneCell hv h1)
  refine ⟨w', ?_, by simpa using hd, h4⟩
  have hne : ¬ (A.eval y).cells.size ≠ ti.size := by rw [k2, ← c1, ← hn]; simp
  simp only [execOp, hX, Instr.storeAt, Instr.sureAddr, storeVar, Sem.run_bind, Sem.run_pure, Result.andThen_ok, run_size k1, hne, if_false, h3]
/-! ### new blocks -/
theorem run_zero {P : Program} {t i v} (h : P.info? t = some i) (hv : i.zero = some v) (w : World) : (zeroValue t).run P w = .ok v w := by simp [zeroValue, run_info h, hv]
theorem plain_cells {μ : Mu} {zs : List Value} (hp : zs.all (plain 2) = true) : ∀ (j : Nat) x, zs[j]? = some x → ∃ y, zs.toArray[j]? = some y ∧ VR μ x y := fun j x hx =>
  ⟨x, by simpa using hx, plain_refl μ 2 x (List.all_eq_true.1 hp x (List.mem_of_getElem? hx))⟩
theorem ok_alloc {e : TypeId} {n b : Nat} {zs : List Value} {m' : Mem} {k : Nat} [TyI P e n b zs] (hp : zs.all (plain 2) = true) (hm' : AppR (some ⟨zs, true, 1⟩) m m' k) : OpOK P ⟨d, .alloc e, t, pp, af, g⟩ ρ m (.pointer (some ⟨k, 0, none⟩)) m' := .gen fun F w0 μ A w hd hm ho => by
  obtain ⟨rfl, rfl⟩ := hm'.spec
  obtain ⟨ti, v, k1, k2, k3, k4, k5⟩ := TyI.ex (P := P) (t := e)
  refine ⟨.pointer (some ⟨w.heap.size, 0, none⟩), w.alloc (.cells v.cells e (0, 0)), _, ?_, Mu.set_ext, by simpa using Mu.set_dom hd, hm.alloc (e := e) (z := 1) (lo := 0) (hi := 0) (cs := zs) (c := v.cells) hd (by rw [k5]; exact plain_cells hp) (fun j _ => by omega), .ptr (L := ⟨w.heap.size, 0, v.cells.size, 1, true⟩) Mu.set_same⟩
  simp [execOp, Instr.alloc, run_zero k1 k4, newVar, newRow]
theorem ok_box {e : TypeId} {x : Operand} {v : Value} {cs : List Value} {m' : Mem} {k : Nat} (hx : ρ x = some v) (hc : ListR v.cells.toList cs) (hm' : AppR (some ⟨cs, true, 1⟩) m m' k) : OpOK P ⟨d, .box e x, t, pp, af, g⟩ ρ m (.pointer (some ⟨k, 0, none⟩)) m' := .gen fun F w0 μ A w hd hm ho => by
  obtain ⟨rfl, rfl⟩ := hm'.spec
  have hc := hc.spec
  have hv := ho x _ (by simp [Op.operands]) hx
  obtain ⟨c1, c2⟩ := hv.cells
  subst hc
  refine ⟨.pointer (some ⟨w.heap.size, 0, none⟩), w.alloc (.cells (A.eval x).cells e (0, 0)), _, ?_, Mu.set_ext, by simpa using Mu.set_dom hd, hm.alloc (e := e) (z := 1) (lo := 0) (hi := 0) (cs := v.cells.toList) (c := (A.eval x).cells) hd (fun j u hu => ?_) (fun j _ => by omega), .ptr (L := ⟨w.heap.size, 0, (A.eval x).cells.size, 1, true⟩) Mu.set_same⟩
  · simp [execOp, Instr.box, newVar, newRow]
  · rw [Array.getElem?_toList] at hu
    have hlt : j < (A.eval x).cells.size := by
      rcases Nat.lt_or_ge j v.cells.size with h' | h'
      · omega
      · rw [Array.getElem?_eq_none h'] at hu; cases hu
    exact ⟨_, Array.getElem?_eq_getElem hlt, c2 j u _ hu (Array.getElem?_eq_getElem hlt)⟩
end
end Go.Proofs.YtdenooeaiicheaaGreat.Av
/- Walking in numbers of one's own: aggregates built, slices made, cut, added to; strings and bytes. -/
namespace Go.Proofs.YtdenooeaiicheaaGreat.Av
/-- The places of a struct's fields: offset, size. -/
class TyP (P : Program) (t : TypeId) (ps : outParam (List (Nat × Nat))) : Prop where
  eq : ∃ gs : Array Field, P.underlying t = some (.struct gs) ∧ (gs.toList.mapM fun f => (P.info? f.type).map fun i => (f.offset, i.size)) = some ps
inductive BuildR (ρ : Operand → Option Value) (pl : Nat → Option (Nat × Nat)) : List Value → List (Nat × Operand) → List Value → Prop
  | nil {cs} : BuildR ρ pl cs [] cs
  | cons {cs i x v vs o n cs1 ps cs2} : ρ x = some v → pl i = some (o, n) → ListR v.cells.toList vs → Nat.beq vs.length n = true → SpliceR cs o vs cs1 → BuildR ρ pl cs1 ps cs2 → BuildR ρ pl cs ((i, x) :: ps) cs2
def VRs (μ : Mu) (cs : List Value) (ys : Array Value) : Prop := cs.length = ys.size ∧ ∀ (i : Nat) u v, cs[i]? = some u → ys[i]? = some v → VR μ u v
theorem foldl_set : ∀ (l : List Value) (k o : Nat) (ys : Array Value), o + k + l.length ≤ ys.size →
    ((l.zipIdx k).foldl (fun (cs : Array Value) (p : Value × Nat) => cs.setIfInBounds (o + p.2) p.1) ys).size = ys.size ∧
    (∀ j, j < l.length → ((l.zipIdx k).foldl (fun (cs : Array Value) (p : Value × Nat) => cs.setIfInBounds (o + p.2) p.1) ys)[o + k + j]? = l[j]?) ∧
    (∀ j, j < o + k ∨ o + k + l.length ≤ j → ((l.zipIdx k).foldl (fun (cs : Array Value) (p : Value × Nat) => cs.setIfInBounds (o + p.2) p.1) ys)[j]? = ys[j]?)
  | [], k, o, ys, _ => ⟨rfl, fun j hj => by simp at hj, fun _ _ => rfl⟩
  | v :: l, k, o, ys, h => by
    obtain ⟨h1, h2, h3⟩ := foldl_set l (k + 1) o (ys.setIfInBounds (o + k) v) (by simp at h ⊢; omega)
    simp only [List.zipIdx_cons, List.foldl_cons]
    refine ⟨by rw [h1]; simp, fun j hj => ?_, fun j hj => ?_⟩
    · cases j with
      | zero =>
        rw [h3 _ (by omega)]
        simp at h
        simp [show o + k < ys.size by omega]
      | succ j =>
        have := h2 j (by simpa using hj)
        rw [show o + k + (j + 1) = o + (k + 1) + j by omega, this]
        simp
    · rw [h3 j (by simp at hj; omega)]
      simp [show o + k ≠ j by simp at hj; omega]
theorem fill_ok {ρ : Operand → Option Value} {pl : Nat → Option (Nat × Nat)} {μ : Mu} {a : Act} {cs cs' : List Value} {ps : List (Nat × Operand)} (h : BuildR ρ pl cs ps cs') :
    ∀ {ys : Array Value}, VRs μ cs ys → (∀ x u, x ∈ ps.map (·.2) → ρ x = some u → VR μ u (a.eval x)) → ∃ ys', Instr.fill pl ys (ps.map fun p => (p.1, a.eval p.2)) = some ys' ∧ VRs μ cs' ys' := by
  induction h with
  | nil => exact fun h _ => ⟨_, rfl, h⟩
  | cons hx hp hl hn hs _ ih =>
    rename_i cs i x v vs o n cs1 ps cs2 _
    intro ys hy ho
    have hv := ho x v (by simp) hx
    obtain ⟨c1, c2⟩ := hv.cells
    have hl := hl.spec
    subst hl
    have hn := Nat.eq_of_beq_eq_true hn
    obtain ⟨s1, s2, s3, s4⟩ := hs.spec
    have hlen : (a.eval x).cells.toList.length = v.cells.toList.length := by simpa using c1.symm
    obtain ⟨f1, f2, f3⟩ := foldl_set (a.eval x).cells.toList 0 o ys (by rw [hlen, ← hy.1]; omega)
    have hz : ∀ (ys : Array Value), ((a.eval x).cells.zipIdx.foldl (fun (cs : Array Value) (p : Value × Nat) => cs.setIfInBounds (o + p.2) p.1) ys) = (((a.eval x).cells.toList.zipIdx 0).foldl (fun (cs : Array Value) (p : Value × Nat) => cs.setIfInBounds (o + p.2) p.1) ys) := fun ys => by
      rw [← Array.foldl_toList]
      simp
    have hvr : VRs μ cs1 (((a.eval x).cells.toList.zipIdx 0).foldl (fun (cs : Array Value) (p : Value × Nat) => cs.setIfInBounds (o + p.2) p.1) ys) := by
      refine ⟨by rw [s2, hy.1, f1], fun j u y hu hyj => ?_⟩
      by_cases hj : o ≤ j ∧ j < o + v.cells.toList.length
      · have e1 := s3 (j - o) (by omega)
        have e2 := f2 (j - o) (by omega)
        rw [show o + (j - o) = j by omega, hu] at e1
        rw [show o + 0 + (j - o) = j by omega, hyj] at e2
        exact c2 (j - o) u y (by rw [← Array.getElem?_toList]; exact e1.symm) (by rw [← Array.getElem?_toList]; exact e2.symm)
      · rw [s4 j (by omega)] at hu
        rw [f3 j (by omega)] at hyj
        exact hy.2 j u y hu hyj
    obtain ⟨ys', k1, k2⟩ := ih hvr fun x u hx hu => ho x u (by simp only [List.map_cons, List.mem_cons]; exact .inr hx) hu
    refine ⟨ys', ?_, k2⟩
    simp only [List.map_cons, Instr.fill, hp]
    have hsz : (a.eval x).cells.size = n := by rw [← c1, ← hn]; simp
    rw [if_neg (by simp only [hsz, ne_eq, not_true_eq_false, decide_false, Bool.false_or, decide_eq_true_eq]; rw [← hy.1]; simp at s1 hn; omega)]
    rw [hz]
    exact k1
theorem run_places {P : Program} (w : World) : ∀ (l : List Field) (ps : List (Nat × Nat)), (l.mapM fun f => (P.info? f.type).map fun i => (f.offset, i.size)) = some ps →
    (l.mapM (fun f => do pure (f.offset, ← sizeOf f.type) : Field → Sem (Nat × Nat))).run P w = .ok ps w
  | [], ps, h => by simp at h; subst h; rfl
  | f :: l, ps, h => by
    rw [List.mapM_cons] at h
    cases hi : P.info? f.type with
    | none => rw [hi] at h; simp at h
    | some i =>
      rw [hi] at h
      cases hr : (l.mapM fun f => (P.info? f.type).map fun i => (f.offset, i.size)) with
      | none => rw [hr] at h; simp at h
      | some qs =>
        rw [hr] at h
        simp at h
        subst h
        have ih := run_places w l qs hr
        simp only [List.mapM_cons, Sem.run_bind, run_size hi, Result.andThen_ok, Sem.run_pure, ih]
section
variable {P : Program} {ρ : Operand → Option Value} {m : Mem} {d : Option Tmp} {t : TypeId} {pp : String} {af : Array Edge} {g : Option (Nat × Bool)}
theorem zero_vr {μ : Mu} {zs : List Value} (hp : zs.all (plain 2) = true) : VRs μ zs zs.toArray := ⟨by simp, fun i u v hu hv => by
  simp only [List.getElem?_toArray] at hv
  rw [hu] at hv; cases hv
  exact plain_refl μ 2 u (List.all_eq_true.1 hp u (List.mem_of_getElem? hu))⟩
theorem ok_build {t' : TypeId} {parts : Array (Nat × Operand)} {ps : List (Nat × Nat)} {n b : Nat} {zs cs : List Value} [TyP P t' ps] [TyI P t' n b zs] (hp : zs.all (plain 2) = true) (hb : BuildR ρ (fun i => ps[i]?) zs parts.toList cs) :
    OpOK P ⟨d, .build t' parts, t, pp, af, g⟩ ρ m (.agg cs.toArray) m := .val fun _ _ μ A w _ _ ho => by
  obtain ⟨gs, k1, k2⟩ := TyP.eq (P := P) (t := t')
  obtain ⟨ti, z, j1, j2, j3, j4, j5⟩ := TyI.ex (P := P) (t := t')
  obtain ⟨ys, h1, h2⟩ := fill_ok (μ := μ) (a := A) hb (zero_vr hp) fun x u hx hu => ho x u (by simpa [Op.operands] using hx) hu
  refine ⟨.agg ys, ?_, .agg (by simpa using h2.1) fun i u v hu hv => h2.2 i u v (by simpa using hu) hv⟩
  have e : (fun (i : Nat) => (ps.toArray)[i]?) = fun (i : Nat) => ps[i]? := by funext i; simp
  simp only [execOp, Instr.build, Sem.run_bind, run_zero j1 j4, Result.andThen_ok, run_und k1, Array.mapM_eq_mapM_toList, Sem.run_map, run_places w _ _ k2, j5]
  rw [e]
  have e2 : (Array.map (fun x => match x with | (i, x) => (i, A.eval x)) parts).toList = parts.toList.map fun p => (p.1, A.eval p.2) := by simp
  rw [e2, h1]
  simp
theorem ok_build_array {t' e : TypeId} {k sz b0 : Nat} {z0 : List Value} {parts : Array (Nat × Operand)} {n b : Nat} {zs cs : List Value} [Ty P t' (.array k e)] [TyI P e sz b0 z0] [TyI P t' n b zs] (hp : zs.all (plain 2) = true) (hb : BuildR ρ (fun i => some (i * sz, sz)) zs parts.toList cs) :
    OpOK P ⟨d, .build t' parts, t, pp, af, g⟩ ρ m (.agg cs.toArray) m := .val fun _ _ μ A w _ _ ho => by
  have k1 := Ty.eq (P := P) (t := t')
  obtain ⟨te, _, i1, i2, _⟩ := TyI.ex (P := P) (t := e)
  obtain ⟨ti, z, j1, j2, j3, j4, j5⟩ := TyI.ex (P := P) (t := t')
  obtain ⟨ys, h1, h2⟩ := fill_ok (μ := μ) (a := A) hb (zero_vr hp) fun x u hx hu => ho x u (by simpa [Op.operands] using hx) hu
  refine ⟨.agg ys, ?_, .agg (by simpa using h2.1) fun i u v hu hv => h2.2 i u v (by simpa using hu) hv⟩
  have e2 : (Array.map (fun x => match x with | (i, x) => (i, A.eval x)) parts).toList = parts.toList.map fun p => (p.1, A.eval p.2) := by simp
  simp only [execOp, Instr.build, Sem.run_bind, run_zero j1 j4, Result.andThen_ok, run_und k1, run_size i1, i2, j5]
  rw [e2, h1]
  simp
/-- A slice of some elements. -/
theorem ok_buildSlice {t' e : TypeId} {len sz b : Nat} {zs cs0 cs : List Value} {parts : Array (Nat × Operand)} {m' : Mem} {k : Nat} [Ty P t' (.slice e)] [TyI P e sz b zs] (hp : zs.all (plain 2) = true) (hle : Nat.ble (len * sz) 16777216 = true) (hz0 : ((List.range (len * sz)).map fun i => zs.getD (i % sz) undef) = cs0) (hzl : Nat.beq zs.length sz = true) (hsz : Nat.blt 0 sz = true)
    (hb : BuildR ρ (fun i => some (i * sz, sz)) cs0 parts.toList cs) (hm' : AppR (some ⟨cs, true, sz⟩) m m' k) (hmz : Nat.beq sz mapZ = false := by rfl) :
    OpOK P ⟨d, .buildSlice t' len parts, t, pp, af, g⟩ ρ m (.slice (some ⟨k, 0, none⟩) len len) m' := .gen fun F w0 μ A w hd hm ho => by
  obtain ⟨rfl, rfl⟩ := hm'.spec
  have k1 := Ty.eq (P := P) (t := t')
  obtain ⟨ti, z, j1, j2, j3, j4, j5⟩ := TyI.ex (P := P) (t := e)
  have hzl := Nat.eq_of_beq_eq_true hzl
  have hsz := Nat.blt_eq.mp hsz
  have hle := Nat.le_of_ble_eq_true hle
  have hcs0 : cs0.all (plain 2) = true := by
    subst hz0
    rw [List.all_eq_true]
    intro x hx
    obtain ⟨i, _, rfl⟩ := List.mem_map.1 hx
    have : i % sz < zs.length := by rw [hzl]; exact Nat.mod_lt _ hsz
    rw [List.getD_eq_getElem?_getD, List.getElem?_eq_getElem this]
    exact List.all_eq_true.1 hp _ (List.getElem_mem _)
  obtain ⟨ys, h1, h2⟩ := fill_ok (μ := μ) (a := A) hb (zero_vr hcs0) fun x u hx hu => ho x u (by simpa [Op.operands] using hx) hu
  have hcl : cs.length = len * sz := by
    have : ∀ {pl cs ps cs'}, BuildR ρ pl cs ps cs' → cs'.length = cs.length := fun {pl cs ps cs'} h => by
      induction h with
      | nil => rfl
      | cons _ _ _ _ hs _ ih => rw [ih, (hs.spec).2.1]
    rw [this hb, ← hz0]; simp
  have hmz' := notMap hmz
  refine ⟨.slice (some ⟨w.heap.size, 0, none⟩) len len, w.alloc (.cells ys e (0, 0)), _, ?_, Mu.set_ext, by simpa using Mu.set_dom hd, hm.alloc (e := e) (z := sz) (lo := 0) (hi := 0) (cs := cs) (c := ys) hd (fun j u hu => ?_) (fun j _ => by omega),
    .slc (L := ⟨w.heap.size, 0, ys.size, sz, true⟩) Mu.set_same (Nat.le_refl _) (fun _ => rfl) (fun _ => rfl) (fun _ => by show 0 + len * sz ≤ ys.size; rw [← h2.1, hcl]; omega)⟩
  · have e2 : (Array.map (fun x => match x with | (i, x) => (i, A.eval x)) parts).toList = parts.toList.map fun p => (p.1, A.eval p.2) := by simp
    have hcs : ∀ zz : Array Value, (len * sz ≠ 0 → zz = zs.toArray) → (Array.range (len * sz)).map (fun i => zz[i % zz.size]!) = cs0.toArray := fun zz hzz => by
      rw [← hz0]
      apply Array.ext (by simp)
      intro i hi1 hi2
      have hi : i < len * sz := by simpa using hi1
      have hlt : i % sz < zs.length := by rw [hzl]; exact Nat.mod_lt _ hsz
      simp [hzz (by omega), hzl, List.getD_eq_getElem?_getD, List.getElem?_eq_getElem hlt]
    simp only [execOp, Instr.buildSlice, Sem.run_bind, Result.andThen_ok, run_und k1, run_size j1, j2]
    rw [if_neg (by omega)]
    by_cases hc : len * sz = 0
    · have h1' : Instr.fill (fun i => some (i * sz, sz)) (Array.map (fun i => (#[] : Array Value)[i % (#[] : Array Value).size]!) (Array.range (len * sz))) (Array.map (fun x => match x with | (i, x) => (i, A.eval x)) parts).toList = some ys := by
        rw [hcs #[] (fun h => absurd hc h), e2]; exact h1
      simp only [hc, if_true, Sem.run_bind, Sem.run_pure, Result.andThen_ok] at h1' ⊢
      rw [h1']
      simp [newRow]
    · have h1' : Instr.fill (fun i => some (i * sz, sz)) (Array.map (fun i => z.cells[i % z.cells.size]!) (Array.range (len * sz))) (Array.map (fun x => match x with | (i, x) => (i, A.eval x)) parts).toList = some ys := by
        rw [hcs z.cells (fun _ => j5), e2]; exact h1
      simp only [hc, if_false, Sem.run_bind, Sem.run_pure, Result.andThen_ok, run_zero j1 j4]
      rw [h1']
      simp [newRow]
  · have hlt : j < ys.size := by
      rw [← h2.1]
      exact (List.getElem?_eq_some_iff.1 hu).1
    exact ⟨_, Array.getElem?_eq_getElem hlt, h2.2 j u _ hu (Array.getElem?_eq_getElem hlt)⟩
end
end Go.Proofs.YtdenooeaiicheaaGreat.Av
