/- Walking in numbers of one's own: the library, part G. -/
import Derived.Test.YtdenooeaiicheaaGreatVF
import Derived.ChangeKeysEq
import Derived.LaidEql
set_option linter.unusedVariables false
set_option linter.unusedSimpArgs false
/- What a row hands in, read by its type, as one's own blocks. -/
namespace Go.Proofs.YtdenooeaiicheaaGreat.Av
open Go.RowKit (Below)
open Go.ChangeShapes Go.WideShapes Go.ChangeAt
def CellSpot (cs : List Value) : Prop := ∀ a n k, Value.slice (some a) n k ∈ cs → a.spot = none
section
variable {P : Program} {W : World} {r : Reach} {b0 : Nat}
theorem cell_spot {u : TypeId} {a : Addr} {n k : Nat} (h : Cell.okWide P W r b0 u (.slice (some a) n k)) : a.spot = none := by
  unfold Cell.okWide Cell.ok at h
  split at h <;> simp_all [World.has]
  split at h <;> simp_all
theorem okWide_spot {t : TypeId} {v : Value} (h : Value.okWide P W r b0 t v) : CellSpot v.cells.toList := by
  intro a n k hm
  unfold Value.okWide at h
  split at h
  · obtain ⟨cs, rfl, _, ts, _, _, hc⟩ := h
    simp only [Value.cells] at hm
    obtain ⟨i, hi⟩ := List.getElem?_of_mem hm
    rw [Array.getElem?_toList] at hi
    obtain ⟨u, _, hu⟩ := hc i _ hi
    exact cell_spot hu
  · obtain ⟨cs, rfl, _, ts, _, _, hc⟩ := h
    simp only [Value.cells] at hm
    obtain ⟨i, hi⟩ := List.getElem?_of_mem hm
    rw [Array.getElem?_toList] at hi
    obtain ⟨u, _, hu⟩ := hc i _ hi
    exact cell_spot hu
  · cases v with
    | agg x =>
      exfalso
      unfold Cell.okWide Cell.ok at h
      split at h <;> simp_all
    | slice a' n' k' =>
      simp [Value.cells] at hm
      obtain ⟨rfl, rfl, rfl⟩ := hm
      exact cell_spot h
    | _ => simp [Value.cells] at hm
end
class EqN (a b : Nat) : Prop where
  eq : a = b
instance (a : Nat) : EqN a a := ⟨rfl⟩
/-- A type without addresses: its cells are f's of a datum. -/
class Fl (P : Program) (t : TypeId) (α : outParam Type) (f : outParam (α → List Value)) (R : outParam (α → Prop)) : Prop where
  fl : ∀ {H : Type} {enc : TypeId × Value → H} {W : World} {fuel : Nat} {cs : List Value} {x : DataW H × List MemPlace}, DataW.trod enc P W 0 (fun _ => true) true fuel t cs = some x → ∃ a, R a ∧ cs = f a
  pl : ∀ a, (f a).all (plain 2) = true
class FlF (P : Program) (fs : List (TypeId × Nat)) (o n : Nat) (α : outParam Type) (f : outParam (α → List Value)) (R : outParam (α → Prop)) : Prop where
  fl : ∀ {H : Type} {enc : TypeId × Value → H} {W : World} {fuel : Nat} {cs : List Value}, cs.length = n → (∀ (i : Nat) (ty : TypeId) (o' : Nat), fs[i]? = some (ty, o') → ∃ x, DataW.trod enc P W 0 (fun _ => true) true fuel ty ((cs.drop o').take (P.cellsOf ty)) = some x) → ∃ a, R a ∧ cs.drop o = f a
  pl : ∀ a, (f a).all (plain 2) = true
section
variable {P : Program} {t e : TypeId}
theorem cellsOf_ty {n b : Nat} {z : List Value} [TyI P t n b z] : P.cellsOf t = n := by
  obtain ⟨i, v, h1, h2, _⟩ := TyI.ex (P := P) (t := t)
  simp [Program.cellsOf, h1, h2]
instance fl_int {k : IntKind} [Ty P t (.int k)] : Fl P t Int (fun n => [.int k n]) (fun n => k.min ≤ n ∧ n ≤ k.max) where
  fl h := by
    obtain ⟨n, h1, _, h3⟩ := DataW.trod_int Ty.eq h
    exact ⟨n, by simpa [Lit.wf] using h3, h1⟩
  pl a := rfl
instance fl_bool [Ty P t .bool] : Fl P t Bool (fun n => [.bool n]) (fun _ => True) where
  fl h := by
    obtain ⟨b, h1, _⟩ := DataW.trod_bool Ty.eq h
    exact ⟨b, trivial, h1⟩
  pl a := rfl
instance fl_str [Ty P t .string] : Fl P t ByteArray (fun s => [.string s]) (fun s => s.size ≤ 9223372036854775807) where
  fl h := by
    obtain ⟨b, h1, _, h3⟩ := DataW.trod_string Ty.eq h
    exact ⟨b, h3, h1⟩
  pl a := rfl
instance flF_nil {n : Nat} : FlF P [] n n Unit (fun _ => []) (fun _ => True) where
  fl h _ := ⟨(), trivial, List.drop_eq_nil_of_le (by omega)⟩
  pl _ := rfl
instance flF_cons {fs : List (TypeId × Nat)} {o n c b : Nat} {z : List Value} {α β : Type} {f : α → List Value} {g : β → List Value} {R : α → Prop} {S : β → Prop} [TyI P t c b z] [h1 : Fl P t α f R] [h2 : FlF P fs (o + c) n β g S] : FlF P ((t, o) :: fs) o n (α × β) (fun p => f p.1 ++ g p.2) (fun p => R p.1 ∧ S p.2) where
  fl hl h := by
    obtain ⟨x, hx⟩ := h 0 t o rfl
    obtain ⟨a, ha, hc⟩ := h1.fl hx
    obtain ⟨b, hb, hd⟩ := h2.fl hl fun i ty o' hi => h (i + 1) ty o' (by simpa using hi)
    rw [cellsOf_ty (P := P) (t := t)] at hc
    refine ⟨(a, b), ⟨ha, hb⟩, ?_⟩
    rw [← hc, ← hd, ← List.drop_drop, List.take_append_drop]
  pl p := by rw [List.all_append, h1.pl, h2.pl]; rfl
instance fl_struct {fs : List (TypeId × Nat)} {n b : Nat} {z : List Value} {α : Type} {f : α → List Value} {R : α → Prop} [hF : TyF P t fs] [TyI P t n b z] [h1 : FlF P fs 0 n α f R] : Fl P t α f R where
  fl h := by
    obtain ⟨gs, hg, hm⟩ := hF.eq
    obtain ⟨xs, m, _, _, hl, hxl, hx⟩ := DataW.trod_struct hg h
    rw [cellsOf_ty (P := P) (t := t)] at hl
    obtain ⟨a, ha, hc⟩ := h1.fl hl (fuel := m) fun i ty o' hi => by
      rw [← hm, List.getElem?_map] at hi
      cases hq : gs.toList[i]? with
      | none => rw [hq] at hi; cases hi
      | some y =>
        rw [hq] at hi
        simp at hi
        obtain ⟨rfl, rfl⟩ := hi
        rw [Array.getElem?_toList] at hq
        have hlt := (Array.getElem?_eq_some_iff.1 hq).1
        exact ⟨xs[i], (hx i y hq).trans (List.getElem?_eq_getElem (by omega))⟩
    exact ⟨a, ha, by simpa using hc⟩
  pl := h1.pl
theorem list_of {α : Type} {p : Nat → α → Prop} : ∀ n, (∀ i, i < n → ∃ a, p i a) → ∃ l : List α, l.length = n ∧ ∀ i a, l[i]? = some a → p i a
  | 0, _ => ⟨[], rfl, fun i a h => by simp at h⟩
  | n + 1, h => by
    obtain ⟨l, h1, h2⟩ := list_of n fun i hi => h i (by omega)
    obtain ⟨a, ha⟩ := h n (by omega)
    refine ⟨l ++ [a], by simp [h1], fun i x hx => ?_⟩
    rcases Nat.lt_trichotomy i l.length with hi | hi | hi
    · rw [List.getElem?_append_left hi] at hx
      exact h2 i x hx
    · subst hi
      simp at hx
      subst hx
      rw [h1]; exact ha
    · rw [List.getElem?_eq_none (by simp; omega)] at hx; cases hx
/-- Cells, c of them for each of l's. -/
theorem flat_get {α : Type} {f : α → List Value} {c : Nat} : ∀ (l : List α), (∀ a ∈ l, (f a).length = c) → ∀ (i j : Nat) (a : α), l[i]? = some a → j < c → (l.flatMap f)[i * c + j]? = (f a)[j]?
  | [], _, i, j, a, h, _ => by simp at h
  | x :: l, hl, i, j, a, h, hj => by
    have hx := hl x (List.mem_cons_self ..)
    rw [List.flatMap_cons]
    cases i with
    | zero =>
      simp at h; subst h
      rw [Nat.zero_mul, Nat.zero_add, List.getElem?_append_left (by omega)]
    | succ i =>
      rw [List.getElem?_append_right (by rw [hx, Nat.succ_mul]; omega), hx, show (i + 1) * c + j - c = i * c + j by rw [Nat.succ_mul]; omega]
      exact flat_get l (fun a ha => hl a (List.mem_cons_of_mem _ ha)) i j a (by simpa using h) hj
theorem flat_len {α : Type} {f : α → List Value} {c : Nat} : ∀ (l : List α), (∀ a ∈ l, (f a).length = c) → (l.flatMap f).length = l.length * c
  | [], _ => by simp
  | x :: l, hl => by
    rw [List.flatMap_cons, List.length_append, hl x (List.mem_cons_self ..), flat_len l fun a ha => hl a (List.mem_cons_of_mem _ ha), List.length_cons, Nat.succ_mul, Nat.add_comm]
instance fl_array {n m c b b' : Nat} {z z' : List Value} {α : Type} {f : α → List Value} {R : α → Prop} [Ty P t (.array n e)] [TyI P e c b z] [TyI P t m b' z'] [he : EqN m (n * c)] [h1 : Fl P e α f R] : Fl P t (List α) (fun l => l.flatMap f) (fun l => l.length = n ∧ ∀ a ∈ l, R a) where
  fl {H enc W fuel cs x} h := by
    obtain ⟨xs, k, _, _, hl, hxl, hx⟩ := DataW.trod_array (Ty.eq (P := P) (t := t)) h
    rw [cellsOf_ty (P := P) (t := t), he.eq] at hl
    rw [cellsOf_ty (P := P) (t := e)] at hx
    obtain ⟨l, l1, l2⟩ := list_of (p := fun i a => R a ∧ (cs.drop (i * c)).take c = f a) n fun i hi => h1.fl ((hx i hi).trans (List.getElem?_eq_getElem (by omega)))
    have hle : ∀ i, i < n → i * c + c ≤ n * c := fun i hi => by
      have := Nat.mul_le_mul_right c (show i + 1 ≤ n by omega)
      rw [Nat.succ_mul] at this; exact this
    have hfl : ∀ a ∈ l, (f a).length = c := fun a ha => by
      obtain ⟨i, hi⟩ := List.getElem?_of_mem ha
      have hin := (List.getElem?_eq_some_iff.1 hi).1
      rw [← (l2 i a hi).2, List.length_take, List.length_drop]
      have := hle i (by omega)
      omega
    refine ⟨l, ⟨l1, fun a ha => ?_⟩, ?_⟩
    · obtain ⟨i, hi⟩ := List.getElem?_of_mem ha
      exact (l2 i a hi).1
    · apply List.ext_getElem?
      intro j
      rcases Nat.lt_or_ge j (n * c) with hj | hj
      · have hc : 0 < c := by rcases Nat.eq_zero_or_pos c with h0 | h0; (rw [h0, Nat.mul_zero] at hj; omega); exact h0
        have hd : j = (j / c) * c + j % c := by rw [Nat.mul_comm]; exact (Nat.div_add_mod j c).symm
        have hin : j / c < n := (Nat.div_lt_iff_lt_mul hc).2 hj
        have hg : l[j / c]? = some l[j / c] := List.getElem?_eq_getElem (by omega)
        have hr := Nat.mod_lt j hc
        rw [hd, flat_get l hfl _ _ _ hg hr, ← (l2 _ _ hg).2, List.getElem?_take, if_pos hr, List.getElem?_drop]
      · rw [List.getElem?_eq_none (by omega), List.getElem?_eq_none (by rw [flat_len l hfl, l1]; exact hj)]
  pl l := by
    rw [List.all_flatMap]
    exact List.all_eq_true.2 fun a _ => h1.pl a
end
/-! ### with slices -/
structure RB where
  cells : List Value
  z : Nat
def At (μ : Mu) (k : Nat) (bs : List RB) (ls : List (Nat × Nat)) : Prop := ∀ (i : Nat) (B : RB) (p : Nat × Nat), bs[i]? = some B → ls[i]? = some p → μ (k + i) = some ⟨p.1, p.2, 0, B.z, false⟩
def CellsAt (W : World) (bs : List RB) (ls : List (Nat × Nat)) : Prop := ∀ (i : Nat) (B : RB) (p : Nat × Nat), bs[i]? = some B → ls[i]? = some p → ∀ μ, CellsC μ B.cells p.1 p.2 W
theorem At.left {μ k bs ls bs' ls'} (h : At μ k (bs ++ bs') (ls ++ ls')) (hl : ls.length = bs.length) : At μ k bs ls := fun i B p h1 h2 => by
  have hb := (List.getElem?_eq_some_iff.1 h1).1
  exact h i B p (by rw [List.getElem?_append_left hb]; exact h1) (by rw [List.getElem?_append_left (by omega)]; exact h2)
theorem At.right {μ k bs ls bs' ls'} (h : At μ k (bs ++ bs') (ls ++ ls')) (hl : ls.length = bs.length) : At μ (k + bs.length) bs' ls' := fun i B p h1 h2 => by
  have := h (bs.length + i) B p (by rw [List.getElem?_append_right (by omega)]; simpa using h1) (by rw [List.getElem?_append_right (by omega)]; simpa [hl] using h2)
  rwa [← Nat.add_assoc] at this
theorem CellsAt.app {W bs ls bs' ls'} (h : CellsAt W bs ls) (h' : CellsAt W bs' ls') (hl : ls.length = bs.length) : CellsAt W (bs ++ bs') (ls ++ ls') := fun i B p h1 h2 => by
  rcases Nat.lt_or_ge i bs.length with hi | hi
  · rw [List.getElem?_append_left hi] at h1
    rw [List.getElem?_append_left (by omega)] at h2
    exact h i B p h1 h2
  · rw [List.getElem?_append_right hi] at h1
    rw [List.getElem?_append_right (by omega), hl] at h2
    exact h' _ B p h1 h2
theorem VRL.app {μ : Mu} {a b c d : List Value} (h : VRL μ a b) (k : VRL μ c d) : VRL μ (a ++ c) (b ++ d) := by
  induction h with
  | nil => exact k
  | cons h _ ih => exact .cons h ih
theorem VRL.len {μ : Mu} {l l' : List Value} (h : VRL μ l l') : l'.length = l.length := by induction h <;> simp [*]
theorem VRL.all_plain {μ : Mu} : ∀ {l : List Value}, l.all (Av.plain 2) = true → VRL μ l l
  | [], _ => .nil
  | x :: l, h => by
    simp only [List.all_cons, Bool.and_eq_true] at h
    exact .cons (plain_refl μ 2 x h.1) (VRL.all_plain h.2)
class Rd (P : Program) (t : TypeId) (α : outParam Type) (f : outParam (α → Nat → List Value)) (g : outParam (α → List RB)) (R : outParam (α → Prop)) : Prop where
  rd : ∀ {H : Type} {enc : TypeId × Value → H} {W : World} {fuel : Nat} {cs : List Value} {x : DataW H × List MemPlace}, DataW.trod enc P W 0 (fun _ => true) true fuel t cs = some x → CellSpot cs →
    ∃ a, R a ∧ ∃ ls : List (Nat × Nat), ls.length = (g a).length ∧ (∀ k μ, At μ k (g a) ls → VRL μ (f a k) cs) ∧ CellsAt W (g a) ls
class RdF (P : Program) (fs : List (TypeId × Nat)) (o n : Nat) (α : outParam Type) (f : outParam (α → Nat → List Value)) (g : outParam (α → List RB)) (R : outParam (α → Prop)) : Prop where
  rd : ∀ {H : Type} {enc : TypeId × Value → H} {W : World} {fuel : Nat} {cs : List Value}, cs.length = n → (∀ (i : Nat) (ty : TypeId) (o' : Nat), fs[i]? = some (ty, o') → ∃ x, DataW.trod enc P W 0 (fun _ => true) true fuel ty ((cs.drop o').take (P.cellsOf ty)) = some x) → CellSpot cs →
    ∃ a, R a ∧ ∃ ls : List (Nat × Nat), ls.length = (g a).length ∧ (∀ k μ, At μ k (g a) ls → VRL μ (f a k) (cs.drop o)) ∧ CellsAt W (g a) ls
section
variable {P : Program} {t e : TypeId}
theorem CellSpot.sub {cs cs' : List Value} (h : CellSpot cs) (hs : ∀ v ∈ cs', v ∈ cs) : CellSpot cs' := fun a n k hm => h a n k (hs _ hm)
instance (priority := 900) rdF_nil {n : Nat} : RdF P [] n n Unit (fun _ _ => []) (fun _ => []) (fun _ => True) where
  rd hl _ _ := ⟨(), trivial, [], rfl, fun k μ _ => by rw [List.drop_eq_nil_of_le (by omega)]; exact .nil, fun i B p h => by simp at h⟩
instance rdF_cons {fs : List (TypeId × Nat)} {o n c b : Nat} {z : List Value} {α β : Type} {f : α → Nat → List Value} {f' : β → Nat → List Value} {g : α → List RB} {g' : β → List RB} {R : α → Prop} {S : β → Prop} [TyI P t c b z] [h1 : Rd P t α f g R] [h2 : RdF P fs (o + c) n β f' g' S] :
    RdF P ((t, o) :: fs) o n (α × β) (fun p k => f p.1 k ++ f' p.2 (k + (g p.1).length)) (fun p => g p.1 ++ g' p.2) (fun p => R p.1 ∧ S p.2) where
  rd hl h hs := by
    obtain ⟨x, hx⟩ := h 0 t o rfl
    obtain ⟨a, ha, ls, l1, l2, l3⟩ := h1.rd hx (hs.sub fun v hv => List.mem_of_mem_drop (List.mem_of_mem_take hv))
    obtain ⟨b, hb, ls', m1, m2, m3⟩ := h2.rd hl (fun i ty o' hi => h (i + 1) ty o' (by simpa using hi)) hs
    refine ⟨(a, b), ⟨ha, hb⟩, ls ++ ls', by simp [l1, m1], fun k μ hA => ?_, l3.app m3 l1⟩
    have e1 := l2 k μ (hA.left l1)
    have e2 := m2 _ μ (hA.right l1)
    rw [cellsOf_ty (P := P) (t := t)] at e1
    rw [← List.drop_drop] at e2
    have := e1.app e2
    rwa [List.take_append_drop] at this
instance (priority := 1100) rd_fl {α : Type} {f : α → List Value} {R : α → Prop} [h1 : Fl P t α f R] : Rd P t α (fun a _ => f a) (fun _ => []) R where
  rd h _ := by
    obtain ⟨a, ha, rfl⟩ := h1.fl h
    exact ⟨a, ha, [], rfl, fun k μ _ => VRL.all_plain (h1.pl a), fun i B p h => by simp at h⟩
instance rd_struct {fs : List (TypeId × Nat)} {n b : Nat} {z : List Value} {α : Type} {f : α → Nat → List Value} {g : α → List RB} {R : α → Prop} [hF : TyF P t fs] [TyI P t n b z] [h1 : RdF P fs 0 n α f g R] : Rd P t α f g R where
  rd h hs := by
    obtain ⟨gs, hg, hm⟩ := hF.eq
    obtain ⟨xs, m, _, _, hl, hxl, hx⟩ := DataW.trod_struct hg h
    rw [cellsOf_ty (P := P) (t := t)] at hl
    obtain ⟨a, ha, ls, l1, l2, l3⟩ := h1.rd hl (fuel := m) (fun i ty o' hi => by
      rw [← hm, List.getElem?_map] at hi
      cases hq : gs.toList[i]? with
      | none => rw [hq] at hi; cases hi
      | some y =>
        rw [hq] at hi
        simp at hi
        obtain ⟨rfl, rfl⟩ := hi
        rw [Array.getElem?_toList] at hq
        have hlt := (Array.getElem?_eq_some_iff.1 hq).1
        exact ⟨xs[i], (hx i y hq).trans (List.getElem?_eq_getElem (by omega))⟩) hs
    exact ⟨a, ha, ls, l1, by simpa using l2, l3⟩
instance rd_slice {c b : Nat} {z : List Value} {α : Type} {f : α → List Value} {R : α → Prop} [Ty P t (.slice e)] [TyI P e c b z] [h1 : Fl P e α f R] :
    Rd P t (List α) (fun l k => [.slice (some ⟨k, 0, none⟩) l.length l.length]) (fun l => [⟨l.flatMap f, c⟩]) (fun l => ∀ a ∈ l, R a) where
  rd {H enc W fuel cs x} h hs := by
    rcases Deep.open_slice (Ty.eq (P := P) (t := t)) h with ⟨rfl, _⟩ | ⟨ad, n, cap, m, n', D, Pl, rfl, _, hl, hm, hmm, _, hi⟩
    · exact ⟨[], by simp, [(0, 0)], rfl, fun k μ _ => .cons .slcNil .nil, fun i B p h1 h2 μ j x hx => by
        cases i with
        | zero => simp at h1; subst h1; simp at hx
        | succ i => simp at h1⟩
    · simp only [if_true] at hmm
      subst hmm
      have hsp := hs ad n m (List.mem_singleton.2 rfl)
      obtain ⟨b1, off, sp⟩ := ad
      dsimp only at hsp
      subst hsp
      rw [cellsOf_ty (P := P) (t := e)] at hi
      obtain ⟨l, l1, l2⟩ := list_of (p := fun i a => R a ∧ (f a).length = c ∧ ∀ j, j < c → W.cell? ⟨b1, off + (i * c + j), none⟩ = (f a)[j]?) n fun i hin => by
        obtain ⟨cs', h3, h4⟩ := hi i (by omega)
        obtain ⟨_, hlen, hcell⟩ := World.cells?_some h3
        obtain ⟨a, ha, rfl⟩ := h1.fl h4
        refine ⟨a, ha, hlen, fun j hj => ?_⟩
        have := hcell j hj
        rw [Go.WideShapes.add_plain, Go.WideShapes.add_plain, Nat.add_assoc] at this
        exact this
      have hfl : ∀ a ∈ l, (f a).length = c := fun a ha => by
        obtain ⟨i, hi⟩ := List.getElem?_of_mem ha
        exact (l2 i a hi).2.1
      refine ⟨l, fun a ha => ?_, [(b1, off)], rfl, fun k μ hA => ?_, ?_⟩
      · obtain ⟨i, hi⟩ := List.getElem?_of_mem ha
        exact (l2 i a hi).1
      · have := hA 0 _ _ rfl rfl
        rw [l1]
        exact .cons (vr_slice_ro this hl) .nil
      · intro i B p h3 h4 μ j x hx
        cases i with
        | succ i => simp at h3
        | zero =>
          simp at h3 h4
          subst h3 h4
          dsimp only at hx ⊢
          have hj := (List.getElem?_eq_some_iff.1 hx).1
          rw [flat_len l hfl, l1] at hj
          have hc : 0 < c := by rcases Nat.eq_zero_or_pos c with h0 | h0; (rw [h0, Nat.mul_zero] at hj; omega); exact h0
          have hd : j = (j / c) * c + j % c := by rw [Nat.mul_comm]; exact (Nat.div_add_mod j c).symm
          have hin : j / c < n := (Nat.div_lt_iff_lt_mul hc).2 hj
          have hg : l[j / c]? = some l[j / c] := List.getElem?_eq_getElem (by omega)
          have hr := Nat.mod_lt j hc
          have e1 := flat_get l hfl _ _ _ hg hr
          rw [← hd] at e1
          have e2 := (l2 _ _ hg).2.2 (j % c) hr
          rw [← hd] at e2
          refine ⟨x, by rw [e2, ← e1]; exact hx, ?_⟩
          have hp : (l.flatMap f).all (plain 2) = true := by
            rw [List.all_flatMap]
            exact List.all_eq_true.2 fun a _ => h1.pl a
          exact plain_refl μ 2 x (List.all_eq_true.1 hp x (List.mem_of_getElem? hx))
end
/-! ### arguments -/
class AggT (P : Program) (t : TypeId) (b : outParam Bool) : Prop where
  eq : ∃ D, P.underlying t = some D ∧ aggD D = b
class RdA (P : Program) (ts : List TypeId) (α : outParam Type) (F : outParam (α → Nat → List Value)) (G : outParam (α → List RB)) (R : outParam (α → Prop)) : Prop where
  rd : ∀ {H : Type} {enc : TypeId × Value → H} {W : World} {r : Reach} {b0 : Nat} {vs : List Value} {ds : List (DataW H)} {p : List MemPlace}, DataW.TrodAll enc P W 0 (fun _ => true) true ts vs ds p → (∀ (j : Nat) t v, ts[j]? = some t → vs[j]? = some v → Value.okWide P W r b0 t v) →
    ∃ a, R a ∧ ∃ ls : List (Nat × Nat), ls.length = (G a).length ∧ (∀ k μ, At μ k (G a) ls → VRL μ (F a k) vs) ∧ CellsAt W (G a) ls
section
variable {P : Program} {t : TypeId}
theorem agg_of {W : World} {r : Reach} {b0 : Nat} {v : Value} [h : AggT P t true] (hv : Value.okWide P W r b0 t v) : ∃ cs, v = .agg cs := by
  obtain ⟨D, h1, h2⟩ := h.eq
  unfold Value.okWide at hv
  rw [h1] at hv
  cases D <;> simp [aggD] at h2
  · obtain ⟨cs, rfl, _⟩ := hv; exact ⟨cs, rfl⟩
  · obtain ⟨cs, rfl, _⟩ := hv; exact ⟨cs, rfl⟩
theorem cell_of {W : World} {r : Reach} {b0 : Nat} {v : Value} [h : AggT P t false] (hv : Value.okWide P W r b0 t v) : v.cells.toList = [v] := by
  obtain ⟨D, h1, h2⟩ := h.eq
  cases v with
  | agg x =>
    exfalso
    unfold Value.okWide at hv
    rw [h1] at hv
    cases D <;> simp [aggD] at h2 <;> (simp only [Cell.okWide, Cell.ok, h1] at hv)
  | _ => rfl
instance rdA_nil : RdA P [] Unit (fun _ _ => []) (fun _ => []) (fun _ => True) where
  rd {H enc W r b0 vs ds p} h _ := by
    obtain ⟨rfl, _, _⟩ := trodAll_nil h
    exact ⟨(), trivial, [], rfl, fun k μ _ => .nil, fun i B p h => by simp at h⟩
theorem VRL.agg {μ : Mu} {xs : List Value} {cs : Array Value} (h : VRL μ xs cs.toList) : VR μ (.agg ⟨xs⟩) (.agg cs) := by
  have hl : xs.length = cs.toList.length := by
    generalize cs.toList = l at h
    induction h with
    | nil => rfl
    | cons _ _ ih => simp [ih]
  refine .agg (by simpa using hl) fun i u v hu hv => ?_
  have := h.at i u v (by simpa using hu)
  exact this (by simpa using hv)
instance rdA_agg {ts : List TypeId} {α β : Type} {f : α → Nat → List Value} {F : β → Nat → List Value} {g : α → List RB} {G : β → List RB} {R : α → Prop} {S : β → Prop} [h1 : Rd P t α f g R] [AggT P t true] [h2 : RdA P ts β F G S] :
    RdA P (t :: ts) (α × β) (fun p k => .agg ⟨f p.1 k⟩ :: F p.2 (k + (g p.1).length)) (fun p => g p.1 ++ G p.2) (fun p => R p.1 ∧ S p.2) where
  rd {H enc W r b0 vs ds p} h hv := by
    obtain ⟨v, vs', d, ds', p', q', rfl, rfl, rfl, ⟨fuel, hf⟩, hr⟩ := trodAll_cons h
    have hok := hv 0 t v rfl rfl
    obtain ⟨a, ha, ls, l1, l2, l3⟩ := h1.rd hf (okWide_spot hok)
    obtain ⟨b, hb, ls', m1, m2, m3⟩ := h2.rd hr fun j t' v' h3 h4 => hv (j + 1) t' v' (by simpa using h3) (by simpa using h4)
    obtain ⟨cs, rfl⟩ := agg_of hok
    exact ⟨(a, b), ⟨ha, hb⟩, ls ++ ls', by simp [l1, m1], fun k μ hA => .cons (VRL.agg (l2 k μ (hA.left l1))) (m2 _ μ (hA.right l1)), l3.app m3 l1⟩
/-- Cells of which there is one. -/
class OneC {α : Type} (f : α → Nat → List Value) (f' : outParam (α → Nat → Value)) : Prop where
  eq : f = fun a k => [f' a k]
instance {α : Type} (f' : α → Nat → Value) : OneC (fun a k => [f' a k]) f' := ⟨rfl⟩
instance rdA_cell {ts : List TypeId} {α β : Type} {f0 : α → Nat → List Value} {f : α → Nat → Value} {F : β → Nat → List Value} {g : α → List RB} {G : β → List RB} {R : α → Prop} {S : β → Prop} [h1 : Rd P t α f0 g R] [hf : OneC f0 f] [AggT P t false] [h2 : RdA P ts β F G S] :
    RdA P (t :: ts) (α × β) (fun p k => f p.1 k :: F p.2 (k + (g p.1).length)) (fun p => g p.1 ++ G p.2) (fun p => R p.1 ∧ S p.2) where
  rd {H enc W r b0 vs ds p} h hv := by
    obtain ⟨v, vs', d, ds', p', q', rfl, rfl, rfl, ⟨fuel, hfu⟩, hr⟩ := trodAll_cons h
    have hok := hv 0 t v rfl rfl
    obtain ⟨a, ha, ls, l1, l2, l3⟩ := h1.rd hfu (okWide_spot hok)
    obtain ⟨b, hb, ls', m1, m2, m3⟩ := h2.rd hr fun j t' v' h3 h4 => hv (j + 1) t' v' (by simpa using h3) (by simpa using h4)
    have hc := cell_of hok
    rw [hf.eq] at l2
    refine ⟨(a, b), ⟨ha, hb⟩, ls ++ ls', by simp [l1, m1], fun k μ hA => ?_, l3.app m3 l1⟩
    have := l2 k μ (hA.left l1)
    rw [hc] at this
    cases this with
    | cons h _ => exact .cons h (m2 _ μ (hA.right l1))
end
end Go.Proofs.YtdenooeaiicheaaGreat.Av
/- Walking in numbers of one's own: arrays compared. -/
namespace Go.Proofs.YtdenooeaiicheaaGreat.Av
inductive IntsR (k : IntKind) : List Value → List Int → Prop
  | nil : IntsR k [] []
  | cons {a vs l} : IntsR k vs l → IntsR k (.int k a :: vs) (a :: l)
theorem IntsR.eq {k vs l} (h : IntsR k vs l) : vs = l.map (Value.int k) := by induction h <;> simp [*]
section
variable {P : Program} {ρ : Operand → Option Value} {m : Mem} {d : Option Tmp} {t : TypeId} {pp : String} {af : Array Edge} {g : Option (Nat × Bool)}
omit ρ m d t pp af g in
open Classical in
omit ρ m d t pp af g in
end
end Go.Proofs.YtdenooeaiicheaaGreat.Av
