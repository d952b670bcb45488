/- Arguments with slices within slices. -/
import Derived.Test.YtdenooeaiicheaaGreatVH
import Derived.Test.YtdenooeaiicheaaGreatI
set_option linter.unusedVariables false
set_option linter.unusedSimpArgs false
namespace Go.Proofs.YtdenooeaiicheaaGreat.Av
open Go Av
set_option maxRecDepth 20000
open Go.RowKit (Below)
/-! ### arguments with slices within slices: one's own numbers are chosen -/
def AtL (μ : Mu) (κ : Nat → Nat) (ls : List (Nat × Nat)) : Prop := ∀ (i : Nat) (p : Nat × Nat), ls[i]? = some p → μ (κ i) = some ⟨p.1, p.2, 0, 1, false⟩
def CellsK (W : World) (μ : Mu) (bs : List (List Value)) (ls : List (Nat × Nat)) : Prop := ∀ (i : Nat) (B : List Value) (p : Nat × Nat), bs[i]? = some B → ls[i]? = some p → CellsC μ B p.1 p.2 W
theorem AtL.left {μ κ ls ls'} (h : AtL μ κ (ls ++ ls')) : AtL μ κ ls := fun i p h1 => h i p (by rw [List.getElem?_append_left (List.getElem?_eq_some_iff.1 h1).1]; exact h1)
theorem AtL.right {μ κ ls ls'} {n : Nat} (h : AtL μ κ (ls ++ ls')) (hl : ls.length = n) : AtL μ (fun i => κ (i + n)) ls' := fun i p h1 => h (i + n) p (by rw [List.getElem?_append_right (by omega)]; simpa [hl] using h1)
theorem CellsK.app {W μ bs ls bs' ls'} (h : CellsK W μ bs ls) (h' : CellsK W μ bs' ls') (hl : ls.length = bs.length) : CellsK W μ (bs ++ bs') (ls ++ ls') := fun i B p h1 h2 => by
  rcases Nat.lt_or_ge i bs.length with hi | hi
  · rw [List.getElem?_append_left hi] at h1
    rw [List.getElem?_append_left (by omega)] at h2
    exact h i B p h1 h2
  · rw [List.getElem?_append_right hi] at h1
    rw [List.getElem?_append_right (by omega), hl] at h2
    exact h' _ B p h1 h2
theorem cellsK_nil {W μ} : CellsK W μ [] [] := fun i B p h _ => by simp at h
class Rk (P : Program) (t : TypeId) (s : Bool) (α : outParam Type) (f : outParam (α → (Nat → Nat) → List Value)) (g : outParam (α → (Nat → Nat) → List (List Value))) (R : outParam (α → Prop)) (n : outParam Nat) : Prop where
  len : ∀ a κ, (g a κ).length = n
  rd : ∀ {H : Type} {enc : TypeId × Value → H} {W : World} {fuel : Nat} {cs : List Value} {x : DataW H × List MemPlace}, DataW.trod enc P W 0 (fun _ => true) true fuel t cs = some x → (s = true → CellSpot cs) →
    ∃ a, R a ∧ ∃ ls : List (Nat × Nat), ls.length = n ∧ ∀ κ μ, AtL μ κ ls → VRL μ (f a κ) cs ∧ CellsK W μ (g a κ) ls
class RkF (P : Program) (fs : List (TypeId × Nat)) (o N : Nat) (s : Bool) (α : outParam Type) (f : outParam (α → (Nat → Nat) → List Value)) (g : outParam (α → (Nat → Nat) → List (List Value))) (R : outParam (α → Prop)) (n : outParam Nat) : Prop where
  len : ∀ a κ, (g a κ).length = n
  rd : ∀ {H : Type} {enc : TypeId × Value → H} {W : World} {fuel : Nat} {cs : List Value}, cs.length = N → (∀ (i : Nat) (ty : TypeId) (o' : Nat), fs[i]? = some (ty, o') → ∃ x, DataW.trod enc P W 0 (fun _ => true) true fuel ty ((cs.drop o').take (P.cellsOf ty)) = some x) → (s = true → CellSpot cs) →
    ∃ a, R a ∧ ∃ ls : List (Nat × Nat), ls.length = n ∧ ∀ κ μ, AtL μ κ ls → VRL μ (f a κ) (cs.drop o) ∧ CellsK W μ (g a κ) ls
theorem spot_of {W : World} {a : Addr} {v : Value} (h : W.cell? (a.add 0) = some v) : a.spot = none := by
  have e : a.add 0 = a := by simp [Addr.add]
  rw [e] at h
  unfold World.cell? at h
  cases hs : a.spot with
  | none => rfl
  | some s =>
    rw [hs] at h
    split at h
    · simp at h
    · cases h
section
variable {P : Program} {t e : TypeId} {s : Bool}
instance (priority := 900) rkF_nil {N : Nat} : RkF P [] N N s Unit (fun _ _ => []) (fun _ _ => []) (fun _ => True) 0 where
  len _ _ := rfl
  rd hl _ _ := ⟨(), trivial, [], rfl, fun κ μ _ => ⟨by rw [List.drop_eq_nil_of_le (by omega)]; exact .nil, cellsK_nil⟩⟩
instance rkF_cons {fs : List (TypeId × Nat)} {o N c b n m : Nat} {z : List Value} {α β : Type} {f : α → (Nat → Nat) → List Value} {f' : β → (Nat → Nat) → List Value} {g : α → (Nat → Nat) → List (List Value)} {g' : β → (Nat → Nat) → List (List Value)} {R : α → Prop} {S : β → Prop} [TyI P t c b z] [h1 : Rk P t s α f g R n] [h2 : RkF P fs (o + c) N s β f' g' S m] :
    RkF P ((t, o) :: fs) o N s (α × β) (fun p κ => f p.1 κ ++ f' p.2 (fun i => κ (i + n))) (fun p κ => g p.1 κ ++ g' p.2 (fun i => κ (i + n))) (fun p => R p.1 ∧ S p.2) (n + m) where
  len p κ := by rw [List.length_append, h1.len, h2.len]
  rd hl h hs := by
    obtain ⟨x, hx⟩ := h 0 t o rfl
    obtain ⟨a, ha, ls, l1, l2⟩ := h1.rd hx fun q => (hs q).sub fun v hv => List.mem_of_mem_drop (List.mem_of_mem_take hv)
    obtain ⟨b, hb, ls', m1, m2⟩ := h2.rd hl (fun i ty o' hi => h (i + 1) ty o' (by simpa using hi)) hs
    refine ⟨(a, b), ⟨ha, hb⟩, ls ++ ls', by simp [l1, m1], fun κ μ hA => ?_⟩
    obtain ⟨e1, c1⟩ := l2 κ μ hA.left
    obtain ⟨e2, c2⟩ := m2 _ μ (hA.right l1)
    rw [cellsOf_ty (P := P) (t := t)] at e1
    rw [← List.drop_drop] at e2
    have := e1.app e2
    rw [List.take_append_drop] at this
    exact ⟨this, c1.app c2 (by rw [l1, h1.len])⟩
instance (priority := 1100) rk_fl {α : Type} {f : α → List Value} {R : α → Prop} [h1 : Fl P t α f R] : Rk P t s α (fun a _ => f a) (fun _ _ => []) R 0 where
  len _ _ := rfl
  rd h _ := by
    obtain ⟨a, ha, rfl⟩ := h1.fl h
    exact ⟨a, ha, [], rfl, fun k μ _ => ⟨VRL.all_plain (h1.pl a), cellsK_nil⟩⟩
instance rk_struct {fs : List (TypeId × Nat)} {N b n : Nat} {z : List Value} {α : Type} {f : α → (Nat → Nat) → List Value} {g : α → (Nat → Nat) → List (List Value)} {R : α → Prop} [hF : TyF P t fs] [TyI P t N b z] [h1 : RkF P fs 0 N s α f g R n] : Rk P t s α f g R n where
  len := h1.len
  rd h hs := by
    obtain ⟨gs, hg, hm⟩ := hF.eq
    obtain ⟨xs, m, _, _, hl, hxl, hx⟩ := DataW.trod_struct hg h
    rw [cellsOf_ty (P := P) (t := t)] at hl
    obtain ⟨a, ha, ls, l1, l2⟩ := h1.rd hl (fuel := m) (fun i ty o' hi => by
      rw [← hm, List.getElem?_map] at hi
      cases hq : gs.toList[i]? with
      | none => rw [hq] at hi; cases hi
      | some y =>
        rw [hq] at hi
        simp at hi
        obtain ⟨rfl, rfl⟩ := hi
        rw [Array.getElem?_toList] at hq
        have hlt := (Array.getElem?_eq_some_iff.1 hq).1
        exact ⟨xs[i], (hx i y hq).trans (List.getElem?_eq_getElem (by omega))⟩) hs
    exact ⟨a, ha, ls, l1, by simpa using l2⟩
/-- A slice among the arguments. -/
instance rk_slice {c b : Nat} {z : List Value} {α : Type} {f : α → List Value} {R : α → Prop} [hS : Ty P t (.slice e)] [hI : TyI P e c b z] [h1 : Fl P e α f R] :
    Rk P t true (List α) (fun l κ => [.slice (some ⟨κ 0, 0, none⟩) l.length l.length]) (fun l _ => [l.flatMap f]) (fun l => ∀ a ∈ l, R a) 1 where
  len _ _ := rfl
  rd {H enc W fuel cs x} h hs := by
    rcases Deep.open_slice (Ty.eq (P := P) (t := t)) h with ⟨rfl, _⟩ | ⟨ad, n, cap, m, n', D, Pl, rfl, _, hl, hm, hmm, _, hi⟩
    · exact ⟨[], by simp, [(0, 0)], rfl, fun k μ _ => ⟨.cons .slcNil .nil, fun i B p h1 h2 j x hx => by
        cases i with
        | zero => simp at h1; subst h1; simp at hx
        | succ i => simp at h1⟩⟩
    · obtain ⟨l, hR, ls, l1, l2, l3⟩ := (rd_slice (P := P) (t := t) (e := e)).rd h (hs rfl)
      match ls, l1 with
      | [p], _ =>
        refine ⟨l, hR, [(p.1, p.2)], rfl, fun κ μ hA => ⟨?_, fun i B q h3 h4 => ?_⟩⟩
        · have e1 := l2 (κ 0) (fun i => if i = κ 0 then some ⟨p.1, p.2, 0, c, false⟩ else none) (fun i B q h3 h4 => by
            cases i with
            | zero => simp at h3 h4; subst h3 h4; simp
            | succ i => simp at h3)
          cases e1 with
          | cons e1 _ =>
            refine .cons ?_ .nil
            have hA0 := hA 0 _ rfl
            have hX : ∀ k v, VR (fun i => if i = κ 0 then some ⟨p.1, p.2, 0, c, false⟩ else none) (.slice (some ⟨κ 0, 0, none⟩) k k) v → VR μ (.slice (some ⟨κ 0, 0, none⟩) k k) v := fun k v hvr => by
              cases hvr with
              | slc h4 h5 h6 h7 h8 =>
                simp at h4
                subst h4
                exact .slc hA0 h5 h6 h7 (fun h => by cases h)
              | slcNil => exact .slcNil
            exact hX _ _ e1
        · have := l3 i ⟨l.flatMap f, c⟩ q (by cases i <;> simp at h3 ⊢) h4 μ
          cases i with
          | zero => simp at h3; subst h3; exact this
          | succ i => simp at h3
/-- A slice within a slice: one without elements is known by its length alone. -/
instance (priority := 1050) rk_in {b : Nat} {z : List Value} {α : Type} {f : α → List Value} {R : α → Prop} [hS : Ty P t (.slice e)] [hI : TyI P e 1 b z] [h1 : Fl P e α f R] :
    Rk P t false (List α) (fun l κ => [.slice (some ⟨κ 0, 0, if l.length = 0 then some 1 else none⟩) l.length l.length]) (fun l _ => [l.flatMap f]) (fun l => ∀ a ∈ l, R a) 1 where
  len _ _ := rfl
  rd {H enc W fuel cs x} h _ := by
    rcases Deep.open_slice (Ty.eq (P := P) (t := t)) h with ⟨rfl, _⟩ | ⟨ad, n, cap, m, n', D, Pl, rfl, _, hl, hm, hmm, _, hi⟩
    · exact ⟨[], by simp, [(0, 0)], rfl, fun k μ _ => ⟨.cons .slcOdd .nil, fun i B p h1 h2 j x hx => by
        cases i with
        | zero => simp at h1; subst h1; simp at hx
        | succ i => simp at h1⟩⟩
    · simp only [if_true] at hmm
      subst hmm
      by_cases h0 : n = 0
      · subst h0
        exact ⟨[], by simp, [(0, 0)], rfl, fun k μ _ => ⟨.cons .slcOdd .nil, fun i B p h1 h2 j x hx => by
          cases i with
          | zero => simp at h1; subst h1; simp at hx
          | succ i => simp at h1⟩⟩
      · have hsp : ad.spot = none := by
          obtain ⟨cs', h3, h4⟩ := hi 0 (by omega)
          obtain ⟨_, hlen, hcell⟩ := World.cells?_some h3
          rw [cellsOf_ty (P := P) (t := e)] at hlen hcell
          have h5 := hcell 0 (by omega)
          rw [Nat.zero_mul] at h5
          match cs', hlen with
          | [v], _ => exact spot_of (a := ad) (v := v) (by simpa [Addr.add] using h5)
        obtain ⟨l, hR, ls, l1, l2⟩ := (rk_slice (P := P) (t := t) (e := e)).rd h fun _ a n' k hm => by
          simp at hm
          obtain ⟨rfl, _⟩ := hm
          exact hsp
        refine ⟨l, hR, ls, l1, fun κ μ hA => ?_⟩
        obtain ⟨e1, c1⟩ := l2 κ μ hA
        refine ⟨?_, c1⟩
        by_cases hl0 : l.length = 0
        · exfalso
          cases e1 with
          | cons e1 _ =>
            have hX : ∀ k v, k = 0 → VR μ (.slice (some ⟨κ 0, 0, none⟩) k k) v → v = .slice (some ad) n m → False := fun k v hk hvr hv => by
              subst hk
              cases hvr <;> cases hv <;> exact h0 rfl
            exact hX _ _ hl0 e1 rfl
        · rw [if_neg hl0]
          exact e1
def rowsK {α : Type} (f : α → (Nat → Nat) → List Value) (l : List α) (κ : Nat → Nat) : List Value := if l.length ≤ 8 then l.zipIdx.flatMap (fun p => f p.1 (fun _ => κ (1 + p.2))) else []
def rowK {α : Type} (g : α → (Nat → Nat) → List (List Value)) (l : List α) (κ : Nat → Nat) (i : Nat) : List Value := (l[i]?.map fun a => (g a (fun _ => κ (1 + i))).headD []).getD []
/-- A slice of rows with one slice each: at most eight rows are told. -/
instance (priority := 900) rk_rows {c b k : Nat} {z : List Value} {α : Type} {f : α → (Nat → Nat) → List Value} {g : α → (Nat → Nat) → List (List Value)} {R : α → Prop} [hS : Ty P t (.slice e)] [hI : TyI P e c b z] [h0 : Rk P e false α f g R k] [he : EqN k 1] :
    Rk P t true (List α) (fun l κ => [.slice (some ⟨κ 0, 0, none⟩) l.length l.length]) (fun l κ => rowsK f l κ :: (List.range 8).map (rowK g l κ)) (fun l => ∀ a ∈ l, R a) 9 where
  len _ _ := rfl
  rd {H enc W fuel cs x} h hs := by
    have h1 : Rk P e false α f g R 1 := by have := h0; rwa [he.eq] at this
    have key : ∀ (q : List (α × Nat × Nat)) (b1 off : Nat) (v : Value), (∀ x ∈ q, R x.1) → (∀ μ id, μ id = some ⟨b1, off, 0, 1, false⟩ → VR μ (.slice (some ⟨id, 0, none⟩) q.length q.length) v) →
        (∀ i x, q[i]? = some x → ∃ cs', cs'.length = c ∧ (∀ j, j < c → W.cell? ⟨b1, off + (i * c + j), none⟩ = cs'[j]?) ∧ ∀ κ μ, AtL μ κ [x.2] → VRL μ (f x.1 κ) cs' ∧ CellsK W μ (g x.1 κ) [x.2]) →
        ∃ a : List α, (∀ x ∈ a, R x) ∧ ∃ ls : List (Nat × Nat), ls.length = 9 ∧ ∀ κ μ, AtL μ κ ls → VRL μ [.slice (some ⟨κ 0, 0, none⟩) a.length a.length] [v] ∧ CellsK W μ (rowsK f a κ :: (List.range 8).map (rowK g a κ)) ls := by
      intro q b1 off v hR hv hq
      refine ⟨q.map Prod.fst, fun x hx => ?_, (b1, off) :: (List.range 8).map (fun i => (q[i]?.map Prod.snd).getD (0, 0)), rfl, fun κ μ hA => ⟨?_, ?_⟩⟩
      · obtain ⟨y, hy, rfl⟩ := List.mem_map.1 hx
        exact hR y hy
      · have h0 := hA 0 _ rfl
        rw [List.length_map]
        exact .cons (hv μ (κ 0) h0) .nil
      · have hrow : ∀ (i : Nat) (x : α × Nat × Nat), i < 8 → q[i]? = some x → AtL μ (fun _ => κ (1 + i)) [x.2] := fun i x hi hx k p hp => by
          cases k with
          | succ k => simp at hp
          | zero =>
            simp at hp
            subst hp
            have := hA (i + 1) x.2 (by rw [List.getElem?_cons_succ, List.getElem?_map, List.getElem?_range hi]; simp [hx])
            show μ (κ (1 + i)) = _
            rw [Nat.add_comm]
            exact this
        intro i B p h3 h4
        cases i with
        | zero =>
          simp at h3 h4
          subst h3 h4
          intro j x hx
          unfold rowsK at hx
          split at hx
          case isFalse => simp at hx
          case isTrue hle =>
          rw [List.length_map] at hle
          have hfl : ∀ y ∈ (q.map Prod.fst).zipIdx, (f y.1 (fun _ => κ (1 + y.2))).length = c := fun y hy => by
            have hy2 := List.mem_zipIdx_iff_getElem?.1 hy
            rw [List.getElem?_map] at hy2
            cases hz : q[y.2]? with
            | none => rw [hz] at hy2; cases hy2
            | some w =>
              rw [hz] at hy2
              have hlt := (List.getElem?_eq_some_iff.1 hz).1
              simp at hy2
              obtain ⟨cs', k1, k2, k3⟩ := hq y.2 w hz
              have := (k3 _ μ (hrow y.2 w (by omega) hz)).1.len
              rw [← hy2, ← k1, this]
          have hj := (List.getElem?_eq_some_iff.1 hx).1
          rw [flat_len _ hfl, List.length_zipIdx, List.length_map] at hj
          have hc : 0 < c := by rcases Nat.eq_zero_or_pos c with h0 | h0; (rw [h0, Nat.mul_zero] at hj; omega); exact h0
          have hd : j = (j / c) * c + j % c := by rw [Nat.mul_comm]; exact (Nat.div_add_mod j c).symm
          have hin : j / c < q.length := (Nat.div_lt_iff_lt_mul hc).2 hj
          have hr := Nat.mod_lt j hc
          obtain ⟨w, hw⟩ : ∃ w, q[j / c]? = some w := ⟨_, List.getElem?_eq_getElem hin⟩
          have hg : (q.map Prod.fst).zipIdx[j / c]? = some (w.1, j / c) := by rw [List.getElem?_zipIdx, List.getElem?_map, hw]; simp
          obtain ⟨cs', k1, k2, k3⟩ := hq (j / c) w hw
          have e1 := flat_get _ hfl _ _ _ hg hr
          rw [← hd, hx] at e1
          have e2 := k2 (j % c) hr
          rw [← hd] at e2
          have hvr := (k3 _ μ (hrow (j / c) w (by omega) hw)).1
          obtain ⟨y, hy⟩ : ∃ y, cs'[j % c]? = some y := ⟨_, List.getElem?_eq_getElem (by omega)⟩
          exact ⟨y, by rw [e2, hy], hvr.at _ _ _ e1.symm (by simpa using hy)⟩
        | succ i =>
          rw [List.getElem?_cons_succ, List.getElem?_map] at h3 h4
          rcases Nat.lt_or_ge i 8 with hi | hi
          · rw [List.getElem?_range hi] at h3 h4
            simp only [Option.map_some, Option.some.injEq] at h3 h4
            subst h3 h4
            unfold rowK
            rw [List.getElem?_map]
            cases hz : q[i]? with
            | none => exact fun j x hx => by simp at hx
            | some w =>
              obtain ⟨cs', k1, k2, k3⟩ := hq i w hz
              have hcl := (k3 _ μ (hrow i w hi hz)).2
              have hln := h1.len w.1 (fun _ => κ (1 + i))
              match hG : g w.1 (fun _ => κ (1 + i)), hln with
              | [X], _ =>
                have := hcl 0 X w.2 (by rw [hG]; rfl) rfl
                simpa [hG] using this
          · rw [List.getElem?_eq_none (by simpa using hi)] at h3
            cases h3
    rcases Deep.open_slice (Ty.eq (P := P) (t := t)) h with ⟨rfl, _⟩ | ⟨ad, n, cap, m, n', D, Pl, rfl, _, hl, hm, hmm, _, hi⟩
    · exact key [] 0 0 _ (by simp) (fun _ _ _ => .slcNil) (fun i x hx => by simp at hx)
    · simp only [if_true] at hmm
      subst hmm
      have hsp := hs rfl ad n m (List.mem_singleton.2 rfl)
      obtain ⟨b1, off, sp⟩ := ad
      dsimp only at hsp
      subst hsp
      rw [cellsOf_ty (P := P) (t := e)] at hi
      obtain ⟨q, q1, q2⟩ := list_of (p := fun i (x : α × Nat × Nat) => R x.1 ∧ ∃ cs', cs'.length = c ∧ (∀ j, j < c → W.cell? ⟨b1, off + (i * c + j), none⟩ = cs'[j]?) ∧ ∀ κ μ, AtL μ κ [x.2] → VRL μ (f x.1 κ) cs' ∧ CellsK W μ (g x.1 κ) [x.2]) n fun i hin => by
        obtain ⟨cs', h3, h4⟩ := hi i (by omega)
        obtain ⟨_, hlen, hcell⟩ := World.cells?_some h3
        obtain ⟨a, ha, ls, l1, l2⟩ := h1.rd h4 (fun h => by cases h)
        match ls, l1 with
        | [p], _ =>
          refine ⟨(a, p), ha, cs', hlen, fun j hj => ?_, l2⟩
          have := hcell j hj
          rw [Go.WideShapes.add_plain, Go.WideShapes.add_plain, Nat.add_assoc] at this
          exact this
      refine key q b1 off _ (fun x hx => ?_) (fun μ id h => ?_) (fun i x hx => (q2 i x hx).2)
      · obtain ⟨i, hi⟩ := List.getElem?_of_mem hx
        exact (q2 i x hi).1
      · rw [q1]
        exact vr_slice_ro h hl
end
/-! ### arguments -/
class RkA (P : Program) (ts : List TypeId) (α : outParam Type) (F : outParam (α → (Nat → Nat) → List Value)) (G : outParam (α → (Nat → Nat) → List (List Value))) (R : outParam (α → Prop)) (n : outParam Nat) : Prop where
  len : ∀ a κ, (G a κ).length = n
  rd : ∀ {H : Type} {enc : TypeId × Value → H} {W : World} {r : Reach} {b0 : Nat} {vs : List Value} {ds : List (DataW H)} {p : List MemPlace}, DataW.TrodAll enc P W 0 (fun _ => true) true ts vs ds p → (∀ (j : Nat) t v, ts[j]? = some t → vs[j]? = some v → Value.okWide P W r b0 t v) →
    ∃ a, R a ∧ ∃ ls : List (Nat × Nat), ls.length = n ∧ ∀ κ μ, AtL μ κ ls → VRL μ (F a κ) vs ∧ CellsK W μ (G a κ) ls
section
variable {P : Program} {t : TypeId}
theorem rkA_nil : RkA P [] Unit (fun _ _ => []) (fun _ _ => []) (fun _ => True) 0 where
  len _ _ := rfl
  rd {H enc W r b0 vs ds p} h _ := by
    obtain ⟨rfl, _, _⟩ := Go.ChangeShapes.trodAll_nil h
    exact ⟨(), trivial, [], rfl, fun κ μ _ => ⟨.nil, cellsK_nil⟩⟩
theorem rkA_agg {ts : List TypeId} {α β : Type} {n m : Nat} {f : α → (Nat → Nat) → List Value} {F : β → (Nat → Nat) → List Value} {g : α → (Nat → Nat) → List (List Value)} {G : β → (Nat → Nat) → List (List Value)} {R : α → Prop} {S : β → Prop} [h1 : Rk P t true α f g R n] [AggT P t true] (h2 : RkA P ts β F G S m) :
    RkA P (t :: ts) (α × β) (fun p κ => .agg ⟨f p.1 κ⟩ :: F p.2 (fun i => κ (i + n))) (fun p κ => g p.1 κ ++ G p.2 (fun i => κ (i + n))) (fun p => R p.1 ∧ S p.2) (n + m) where
  len p κ := by rw [List.length_append, h1.len, h2.len]
  rd {H enc W r b0 vs ds p} h hv := by
    obtain ⟨v, vs', d, ds', p', q', rfl, rfl, rfl, ⟨fuel, hf⟩, hr⟩ := Go.ChangeShapes.trodAll_cons h
    have hok := hv 0 t v rfl rfl
    obtain ⟨a, ha, ls, l1, l2⟩ := h1.rd hf fun _ => okWide_spot hok
    obtain ⟨b, hb, ls', m1, m2⟩ := h2.rd hr fun j t' v' h3 h4 => hv (j + 1) t' v' (by simpa using h3) (by simpa using h4)
    obtain ⟨cs, rfl⟩ := agg_of hok
    exact ⟨(a, b), ⟨ha, hb⟩, ls ++ ls', by simp [l1, m1], fun κ μ hA => ⟨.cons (VRL.agg (l2 κ μ hA.left).1) (m2 _ μ (hA.right l1)).1, (l2 κ μ hA.left).2.app (m2 _ μ (hA.right l1)).2 (by rw [l1, h1.len])⟩⟩
theorem rkA_cell {ts : List TypeId} {α β : Type} {n m : Nat} {f : α → (Nat → Nat) → Value} {F : β → (Nat → Nat) → List Value} {g : α → (Nat → Nat) → List (List Value)} {G : β → (Nat → Nat) → List (List Value)} {R : α → Prop} {S : β → Prop} [h1 : Rk P t true α (fun a κ => [f a κ]) g R n] [AggT P t false] (h2 : RkA P ts β F G S m) :
    RkA P (t :: ts) (α × β) (fun p κ => f p.1 κ :: F p.2 (fun i => κ (i + n))) (fun p κ => g p.1 κ ++ G p.2 (fun i => κ (i + n))) (fun p => R p.1 ∧ S p.2) (n + m) where
  len p κ := by rw [List.length_append, h1.len, h2.len]
  rd {H enc W r b0 vs ds p} h hv := by
    obtain ⟨v, vs', d, ds', p', q', rfl, rfl, rfl, ⟨fuel, hf⟩, hr⟩ := Go.ChangeShapes.trodAll_cons h
    have hok := hv 0 t v rfl rfl
    obtain ⟨a, ha, ls, l1, l2⟩ := h1.rd hf fun _ => okWide_spot hok
    obtain ⟨b, hb, ls', m1, m2⟩ := h2.rd hr fun j t' v' h3 h4 => hv (j + 1) t' v' (by simpa using h3) (by simpa using h4)
    have hc := cell_of hok
    refine ⟨(a, b), ⟨ha, hb⟩, ls ++ ls', by simp [l1, m1], fun κ μ hA => ⟨?_, (l2 κ μ hA.left).2.app (m2 _ μ (hA.right l1)).2 (by rw [l1, h1.len])⟩⟩
    have := (l2 κ μ hA.left).1
    rw [hc] at this
    cases this with
    | cons h _ => exact .cons h (m2 _ μ (hA.right l1)).1
end
/-- A call of a law, its arguments read so. -/
theorem calls_rk {P : Program} {f : FuncId} {args ys : List Value} {bs : List (List Value)} {ls : List (Nat × Nat)} {m : Mem} {W : World} {r : Value} (h : ∃ m', ACalls P f args m r m') (hr : plain 6 r = true) (κ ι : Nat → Nat)
    (hκ : ∀ i, i < ls.length → ι (κ i) = i) (hm : ∀ id, m.length ≤ id → ls.length ≤ ι id) (hbs : bs.length = ls.length) (hb : ∀ id B, m[id]? = some (some B) → B.rw = false ∧ B.z = 1 ∧ bs[ι id]? = some B.cells)
    (hv : ∀ μ, AtL μ κ ls → VRL μ args ys ∧ CellsK W μ bs ls) (hamb : Amb (fun k => W.heap.size ≤ k) W := by exact ⟨fun g h => by cases h⟩) : Calls P f ys.toArray W fun e w' => e = .returned r ∧ Below W.heap.size W w' := by
  obtain ⟨m', h⟩ := h
  let μ : Mu := fun id => match ls[ι id]? with | some p => some ⟨p.1, p.2, 0, 1, false⟩ | none => none
  have hA : AtL μ κ ls := fun i p h1 => by
    show (match ls[ι (κ i)]? with | some p => some (Loc.mk p.1 p.2 0 1 false) | none => none) = _
    rw [hκ i (List.getElem?_eq_some_iff.1 h1).1, h1]
  obtain ⟨hvv, hcc⟩ := hv μ hA
  have hlen := hvv.len
  have z1 : (1 : Nat) ≠ mapZ := by decide
  refine calls_of h hr (μ := μ) (fun i hi => ?_) (repM_ro (hA := hamb) fun id B hB => ?_) (by simpa using hlen) hvv.at
  · show (match ls[ι i]? with | some p => some (Loc.mk p.1 p.2 0 1 false) | none => none) = none
    rw [List.getElem?_eq_none (hm i hi)]
  · rw [live_some] at hB
    obtain ⟨b1, b2, b3⟩ := hb id B hB
    have hlt := (List.getElem?_eq_some_iff.1 b3).1
    have hp : ls[ι id]? = some ls[ι id] := List.getElem?_eq_getElem (by omega)
    refine ⟨b1, _, (by show (match ls[ι id]? with | some p => some (Loc.mk p.1 p.2 0 1 false) | none => none) = _; rw [hp]), rfl, b2.symm, by rw [b2]; exact z1, ?_⟩
    rw [b2]
    exact CellsC.z (hcc _ _ _ b3 hp) z1
end Go.Proofs.YtdenooeaiicheaaGreat.Av
