/- Walking in numbers of one's own: the library, part J. -/
import Derived.Test.YtdenooeaiicheaaGreatVI
set_option linter.unusedVariables false
set_option linter.unusedSimpArgs false
/- Walking in numbers of one's own: a region that draws its order, whose operations may write blocks of their own. -/
namespace Go.Proofs.YtdenooeaiicheaaGreat.Av.Own
open Go
/-- Some operation owns a block. -/
def owned (W : List (List Nat)) (id : Nat) : Bool := W.any fun l => l.contains id
/-- The blocks that an operation may look at: its own ones as they are, those of others not at all. -/
def visO (base : Nat) (cr : List Nat) (W : List (List Nat)) (i : Nat) (p : Nat → Bool) (m : Mem) : Mem :=
  m.zipIdx.map fun (b, id) => cond ((W.getD i []).contains id) b (cond (owned W id) none (cond (Nat.blt id base || p (cr.getD (id - base) 0)) (b.map fun B => { B with rw := false }) none))
/-- m' is m as v' is v: with blocks of one's own written, and new ones. -/
inductive ExtO (Wi : List Nat) : Nat → Mem → Mem → Mem → Mem → Prop
  | nil {k : Nat} {N : Mem} : (N.all fun b => match b with | some B => B.rw | none => true) = true → ExtO Wi k [] N [] N
  | keep {k x v v' y m m'} : Wi.contains k = false → ExtO Wi (k + 1) v v' m m' → ExtO Wi k (x :: v) (x :: v') (y :: m) (y :: m')
  | own {k x x' v v' y m m'} : Wi.contains k = true → (match x' with | some B => B.rw | none => true) = true → ExtO Wi (k + 1) v v' m m' → ExtO Wi k (x :: v) (x' :: v') (y :: m) (x' :: m')
theorem ExtO.spec {Wi k v v' m m'} (h : ExtO Wi k v v' m m') : v.length = m.length ∧ ∃ V0 M0 N : Mem, v' = V0 ++ N ∧ m' = M0 ++ N ∧ V0.length = m.length ∧ M0.length = m.length ∧ (N.all fun b => match b with | some B => B.rw | none => true) = true ∧
    (∀ id, Wi.contains (k + id) = false → V0[id]? = v[id]? ∧ M0[id]? = m[id]?) ∧ (∀ id, Wi.contains (k + id) = true → M0[id]? = V0[id]? ∧ ∀ B, V0[id]? = some (some B) → B.rw = true) := by
  induction h with
  | nil h => exact ⟨rfl, [], [], _, rfl, rfl, rfl, rfl, h, fun id _ => by simp, fun id _ => by simp⟩
  | @keep k x v v' y m m' hk _ ih =>
    obtain ⟨h1, V0, M0, N, h2, h3, h4, h5, h6, h7, h8⟩ := ih
    refine ⟨by simp [h1], x :: V0, y :: M0, N, by simp [h2], by simp [h3], by simp [h4], by simp [h5], h6, fun id hid => ?_, fun id hid => ?_⟩
    · cases id with
      | zero => exact ⟨rfl, rfl⟩
      | succ id => simpa using h7 id (by rw [show k + 1 + id = k + (id + 1) by omega]; exact hid)
    · cases id with
      | zero => rw [Nat.add_zero, hk] at hid; cases hid
      | succ id => simpa using h8 id (by rw [show k + 1 + id = k + (id + 1) by omega]; exact hid)
  | @own k x x' v v' y m m' hk hr _ ih =>
    obtain ⟨h1, V0, M0, N, h2, h3, h4, h5, h6, h7, h8⟩ := ih
    refine ⟨by simp [h1], x' :: V0, x' :: M0, N, by simp [h2], by simp [h3], by simp [h4], by simp [h5], h6, fun id hid => ?_, fun id hid => ?_⟩
    · cases id with
      | zero => rw [Nat.add_zero, hk] at hid; cases hid
      | succ id => simpa using h7 id (by rw [show k + 1 + id = k + (id + 1) by omega]; exact hid)
    · cases id with
      | zero =>
        refine ⟨rfl, fun B hB => ?_⟩
        simp only [List.getElem?_cons_zero, Option.some.injEq] at hB
        subst hB
        exact hr
      | succ id => simpa using h8 id (by rw [show k + 1 + id = k + (id + 1) by omega]; exact hid)
/-- A region's operations in the text's order, its order drawn; W has the blocks that each may write. -/
inductive RunO (P : Program) (ops : Array Oper) (M : List Nat) (kb base : Nat) (W : List (List Nat)) (K : Slots → Mem → Prop) : Nat → List Oper → Slots → Mem → List Nat → Prop
  | nil {i σ σ0 m cr} : Sub σ σ0 → K σ m → RunO P ops M kb base W K i [] σ0 m cr
  | no {i σ σ0 m cr o l} : Sub σ σ0 → Want ops σ o false → RunO P ops M kb base W K (i + 1) l (put σ o.dst undef) m cr → RunO P ops M kb base W K i (o :: l) σ0 m cr
  | pure {i σ σ0 m cr o l v} : Sub σ σ0 → Want ops σ o true → touch o.op = false → OpOK P o (ev σ) (holes m) v (holes m) → RunO P ops M kb base W K (i + 1) l (put σ o.dst v) m cr → RunO P ops M kb base W K i (o :: l) σ0 m cr
  | mem {i σ σ0 m cr o l v V' m'} : Sub σ σ0 → Want ops σ o true → i < kb → touch o.op = true → OpOK P o (ev σ) (visO base cr W i (fun j => (M.getD i 0).testBit j) m) v V' → ExtO (W.getD i []) 0 (visO base cr W i (fun j => (M.getD i 0).testBit j) m) V' m m' →
      RunO P ops M kb base W K (i + 1) l (put σ o.dst v) m' (cr ++ List.replicate (m'.length - m.length) i) → RunO P ops M kb base W K i (o :: l) σ0 m cr
  | bar {i σ σ0 m cr o l v m'} : Sub σ σ0 → Want ops σ o true → kb ≤ i → touch o.op = true → OpOK P o (ev σ) m v m' → m.length ≤ m'.length →
      RunO P ops M kb base W K (i + 1) l (put σ o.dst v) m' (cr ++ List.replicate (m'.length - m.length) i) → RunO P ops M kb base W K i (o :: l) σ0 m cr
/-- Who owns what: blocks that were there, each of one operation, which touches memory, ahead of the bar. -/
def chkW (ops : Array Oper) (kb base : Nat) (W : List (List Nat)) : Bool :=
  W.zipIdx.all fun (l, i) => l.all fun id => Nat.blt id base && Nat.blt i kb && (match ops[i]? with | some o => touch o.op | none => false) && W.zipIdx.all fun (l', j) => Nat.beq i j || !l'.contains id
structure OwnOK (ops : Array Oper) (kb base : Nat) (W : List (List Nat)) : Prop where
  base : ∀ i id, (W.getD i []).contains id = true → id < base
  kb : ∀ i id, (W.getD i []).contains id = true → i < kb
  touch : ∀ i id, (W.getD i []).contains id = true → ∃ o, ops[i]? = some o ∧ touch o.op = true
  one : ∀ i j id, (W.getD i []).contains id = true → (W.getD j []).contains id = true → i = j
theorem getD_W {W : List (List Nat)} {i id : Nat} (h : (W.getD i []).contains id = true) : ∃ l, W[i]? = some l ∧ id ∈ l := by
  rw [List.getD_eq_getElem?_getD] at h
  cases hl : W[i]? with
  | none => rw [hl] at h; simp at h
  | some l => rw [hl] at h; exact ⟨l, rfl, by simpa using h⟩
theorem chkW_spec {ops : Array Oper} {kb base : Nat} {W : List (List Nat)} (h : chkW ops kb base W = true) : OwnOK ops kb base W := by
  unfold chkW at h
  have key : ∀ i id, (W.getD i []).contains id = true → id < base ∧ i < kb ∧ (∃ o, ops[i]? = some o ∧ Av.touch o.op = true) ∧ ∀ j, (W.getD j []).contains id = true → i = j := fun i id hi => by
    obtain ⟨l, h1, h2⟩ := getD_W hi
    have h3 := List.all_eq_true.1 (zipIdx_all h h1) id h2
    simp only [Bool.and_eq_true] at h3
    obtain ⟨⟨⟨a1, a2⟩, a3⟩, a4⟩ := h3
    refine ⟨Nat.blt_eq.mp a1, Nat.blt_eq.mp a2, ?_, fun j hj => ?_⟩
    · cases ho : ops[i]? with
      | none => rw [ho] at a3; cases a3
      | some o => rw [ho] at a3; exact ⟨o, rfl, a3⟩
    · obtain ⟨l', k1, k2⟩ := getD_W hj
      have := zipIdx_all a4 k1
      simp only [Bool.or_eq_true] at this
      rcases this with h' | h'
      · exact Nat.eq_of_beq_eq_true h'
      · simp at h'; exact absurd k2 h'
  exact ⟨fun i id hi => (key i id hi).1, fun i id hi => (key i id hi).2.1, fun i id hi => (key i id hi).2.2.1, fun i j id hi hj => (key i id hi).2.2.2 j hj⟩
theorem owned_is {W : List (List Nat)} {i id : Nat} (h : (W.getD i []).contains id = true) : owned W id = true := by
  obtain ⟨l, h1, h2⟩ := getD_W h
  exact List.any_eq_true.2 ⟨l, List.mem_of_getElem? h1, by simpa using h2⟩
theorem visO_len (base : Nat) (cr : List Nat) (W : List (List Nat)) (i : Nat) (p : Nat → Bool) (m : Mem) : (visO base cr W i p m).length = m.length := by simp [visO]
theorem visO_live {base : Nat} {cr : List Nat} {W : List (List Nat)} {i : Nat} {p : Nat → Bool} {m : Mem} {id : Nat} {B : Blk} (h : live (visO base cr W i p m) id = some B) :
    ((W.getD i []).contains id = true ∧ live m id = some B) ∨ (owned W id = false ∧ ∃ B', live m id = some B' ∧ B = { B' with rw := false } ∧ (id < base ∨ p (cr.getD (id - base) 0) = true)) := by
  rw [live_some] at h
  unfold visO at h
  rw [List.getElem?_map, List.getElem?_zipIdx] at h
  cases hm : m[id]? with
  | none => rw [hm] at h; simp at h
  | some x =>
    rw [hm] at h
    simp only [Option.map_some, Nat.zero_add, Option.some.injEq] at h
    cases hw : (W.getD i []).contains id with
    | true =>
      rw [hw, cond_true] at h
      exact .inl ⟨rfl, by rw [live_some, hm, h]⟩
    | false =>
      rw [hw, cond_false] at h
      cases ho : owned W id with
      | true => rw [ho, cond_true] at h; cases h
      | false =>
        rw [ho, cond_false] at h
        cases hc : (Nat.blt id base || p (cr.getD (id - base) 0)) with
        | false => rw [hc] at h; cases h
        | true =>
          rw [hc, cond_true] at h
          cases x with
          | none => cases h
          | some B' =>
            simp only [Option.map_some, Option.some.injEq] at h
            refine .inr ⟨rfl, B', by rw [live_some, hm], h.symm, ?_⟩
            rcases Bool.or_eq_true_iff.1 hc with h1 | h1
            · exact .inl (Nat.blt_eq.mp h1)
            · exact .inr h1
/-! ### what a run in the text's order gives -/
structure Step (P : Program) (ops : Array Oper) (M : List Nat) (kb base : Nat) (W : List (List Nat)) (i : Nat) (o : Oper) (σ : Slots) (m : Mem) (cr : List Nat) (v : Value) (σ' : Slots) (m' : Mem) (cr' : List Nat) : Prop where
  slots : ∀ t x, look σ' t = some x → (o.dst = some t ∧ x = v) ∨ (o.dst ≠ some t ∧ look σ t = some x)
  len : m.length ≤ m'.length
  crs : cr' = cr ++ List.replicate (m'.length - m.length) i
  does : (Want ops σ o false ∧ v = undef ∧ m' = m) ∨
    (Want ops σ o true ∧ touch o.op = false ∧ m' = m ∧ OpOK P o (ev σ) (holes m) v (holes m)) ∨
    (Want ops σ o true ∧ i < kb ∧ touch o.op = true ∧ ∃ V0 M0 N : Mem, m' = M0 ++ N ∧ V0.length = m.length ∧ M0.length = m.length ∧ (N.all fun b => match b with | some B => B.rw | none => true) = true ∧ (∀ id, (W.getD i []).contains id = false → V0[id]? = (visO base cr W i (fun j => (M.getD i 0).testBit j) m)[id]? ∧ M0[id]? = m[id]?) ∧ (∀ id, (W.getD i []).contains id = true → M0[id]? = V0[id]? ∧ ∀ B, V0[id]? = some (some B) → B.rw = true) ∧ OpOK P o (ev σ) (visO base cr W i (fun j => (M.getD i 0).testBit j) m) v (V0 ++ N)) ∨
    (Want ops σ o true ∧ kb ≤ i ∧ touch o.op = true ∧ OpOK P o (ev σ) m v m')
theorem trace {P : Program} {ops : Array Oper} {M : List Nat} {kb base : Nat} {W : List (List Nat)} {K : Slots → Mem → Prop} {i : Nat} {l : List Oper} {σ0 : Slots} {m : Mem} {cr : List Nat} (h : RunO P ops M kb base W K i l σ0 m cr) :
    ∃ T : Nat → Tr, (T 0).σ = σ0 ∧ (T 0).m = m ∧ (T 0).cr = cr ∧ (∀ (j : Nat) (o : Oper), l[j]? = some o → Step P ops M kb base W (i + j) o (T j).σ (T j).m (T j).cr (T j).v (T (j + 1)).σ (T (j + 1)).m (T (j + 1)).cr) ∧
      ∃ σ, Sub σ (T l.length).σ ∧ K σ (T l.length).m := by
  have cons : ∀ {i : Nat} {o : Oper} {l : List Oper} {σ0 σ' : Slots} {m m' : Mem} {cr cr' : List Nat} {v : Value}, Step P ops M kb base W i o σ0 m cr v σ' m' cr' →
      (∃ T : Nat → Tr, (T 0).σ = σ' ∧ (T 0).m = m' ∧ (T 0).cr = cr' ∧ (∀ (j : Nat) (o : Oper), l[j]? = some o → Step P ops M kb base W (i + 1 + j) o (T j).σ (T j).m (T j).cr (T j).v (T (j + 1)).σ (T (j + 1)).m (T (j + 1)).cr) ∧ ∃ σ, Sub σ (T l.length).σ ∧ K σ (T l.length).m) →
      ∃ T : Nat → Tr, (T 0).σ = σ0 ∧ (T 0).m = m ∧ (T 0).cr = cr ∧ (∀ (j : Nat) (o1 : Oper), (o :: l)[j]? = some o1 → Step P ops M kb base W (i + j) o1 (T j).σ (T j).m (T j).cr (T j).v (T (j + 1)).σ (T (j + 1)).m (T (j + 1)).cr) ∧
        ∃ σ, Sub σ (T (o :: l).length).σ ∧ K σ (T (o :: l).length).m := by
    intro i o l σ0 σ' m m' cr cr' v hs ⟨T, h1, h2, h3, h4, h5⟩
    refine ⟨fun j => match j with | 0 => ⟨σ0, m, cr, v⟩ | j + 1 => T j, rfl, rfl, rfl, fun j o1 hj => ?_, h5⟩
    cases j with
    | zero =>
      simp only [List.getElem?_cons_zero, Option.some.injEq] at hj
      subst hj
      simp only [h1, h2, h3]
      exact hs
    | succ j =>
      have := h4 j o1 (by simpa using hj)
      rw [show i + 1 + j = i + (j + 1) by omega] at this
      exact this
  induction h with
  | nil hs hk => exact ⟨fun _ => ⟨_, _, _, undef⟩, rfl, rfl, rfl, fun j o hj => by simp at hj, _, hs, hk⟩
  | no hs hw _ ih => exact cons ⟨put_slots hs _ _, Nat.le_refl _, by simp, .inl ⟨hw.sub hs, rfl, rfl⟩⟩ ih
  | pure hs hw ht hop _ ih => exact cons ⟨put_slots hs _ _, Nat.le_refl _, by simp, .inr (.inl ⟨hw.sub hs, ht, rfl, hop.sub hs⟩)⟩ ih
  | mem hs hw hi ht hop hx _ ih =>
    obtain ⟨h1, V0, M0, N, h2, h3, h4, h5, h6, h7, h8⟩ := hx.spec
    subst h2 h3
    simp only [Nat.zero_add] at h7 h8
    exact cons ⟨put_slots hs _ _, by rw [List.length_append]; omega, rfl, .inr (.inr (.inl ⟨hw.sub hs, hi, ht, V0, M0, N, rfl, h4, h5, h6, h7, h8, hop.sub hs⟩))⟩ ih
  | bar hs hw hi ht hop hl _ ih => exact cons ⟨put_slots hs _ _, hl, rfl, .inr (.inr (.inr ⟨hw.sub hs, hi, ht, hop.sub hs⟩))⟩ ih
/-! ### any order -/
section
variable {P : Program} {ops : Array Oper} {M : List Nat} {kb nt : Nat} {F : Nat → Prop} {w0 : World} {T : Nat → Tr} {μ0 : Mu} {l0 : List Deferred} {W : List (List Nat)}
abbrev ln (T : Nat → Tr) (i : Nat) : Nat := (T i).m.length
def Cls (W : List (List Nat)) (T : Nat → Tr) (S : Nat → Prop) (c id : Nat) : Prop := (c = 0 ∧ id < ln T 0 ∧ ∀ j, S j → (W.getD j []).contains id = false) ∨ ∃ j, c = j + 1 ∧ S j ∧ ((ln T j ≤ id ∧ id < ln T (j + 1)) ∨ (W.getD j []).contains id = true)
structure MemA (W : List (List Nat)) (T : Nat → Tr) (S : Nat → Prop) (F : Nat → Prop) (w0 : World) (μ : Mu) (w : World) : Prop where
  fr : FrW F w0 w
  blk : ∀ c id B, Cls W T S c id → live (T c).m id = some B → ∃ L, μ id = some L ∧ BlkOK (restr μ (ln T c)) B L w ∧ (Rw B L → F L.b)
  excl : ∀ c c' id id' B B' L L', Cls W T S c id → Cls W T S c' id' → live (T c).m id = some B → live (T c').m id' = some B' → id ≠ id' → μ id = some L → μ id' = some L' → Rw B L → Takes B' L' → L.b ≠ L'.b
structure MemB (ops : Array Oper) (kb : Nat) (T : Nat → Tr) (S : Nat → Prop) (F : Nat → Prop) (w0 : World) (μ : Mu) (w : World) (k : Nat) : Prop where
  op : ∃ o, ops[k]? = some o ∧ touch o.op = true
  le : kb ≤ k
  all : ∀ j o, ops[j]? = some o → touch o.op = true → (S j ↔ j ≤ k)
  rep : RepM F w0 (restr μ (ln T (k + 1))) (T (k + 1)).m w
structure AInv (ops : Array Oper) (kb nt : Nat) (l0 : List Deferred) (W : List (List Nat)) (T : Nat → Tr) (S : Nat → Prop) (F : Nat → Prop) (w0 : World) (μ0 : Mu) (a : Act) (w : World) (μ : Mu) : Prop where
  lt : ∀ i, S i → i < ops.size
  closed : ∀ i o, S i → ops[i]? = some o → ∀ e ∈ o.after.toList, Region.binds .any e = true → S e.on
  size : a.tmps.size = nt
  defers : a.defers = l0
  s1 : ∀ i o t, S i → ops[i]? = some o → o.dst = some t → VR (restr μ (ln T (i + 1))) (T i).v (a.tmps.getD t undef)
  s0 : ∀ t x, (∀ i o, S i → ops[i]? = some o → o.dst ≠ some t) → look (T 0).σ t = some x → t < nt ∧ VR (restr μ (ln T 0)) x (a.tmps.getD t undef)
  dom : ∀ id, μ id ≠ none → id < ln T 0 ∨ ∃ j, S j ∧ ln T j ≤ id ∧ id < ln T (j + 1)
  ext : Ext (ln T 0) μ0 μ
  mem : ((∀ k o, S k → ops[k]? = some o → touch o.op = true → k < kb) ∧ MemA W T S F w0 μ w) ∨ ∃ k, MemB ops kb T S F w0 μ w k
theorem MemA.keep {S : Nat → Prop} {μ : Mu} {w w' : World} (h : MemA W T S F w0 μ w) (ho : w'.os = w.os) (ht : w'.tape = w.tape) (hp : w'.output = w.output) (hs : w.heap.size ≤ w'.heap.size) (hh : ∀ k, k < w.heap.size → w'.heap[k]? = w.heap[k]?) : MemA W T S F w0 μ w' where
  fr := h.fr.keep ho ht hp hs hh
  blk c id B hc hB := by
    obtain ⟨L, h1, h2, h3⟩ := h.blk c id B hc hB
    exact ⟨L, h1, h2.keep fun hb => hh _ (h2.lt hb), h3⟩
  excl := h.excl
variable (hstep : ∀ (j : Nat) (o : Oper), ops[j]? = some o → Step P ops M kb (ln T 0) W j o (T j).σ (T j).m (T j).cr (T j).v (T (j + 1)).σ (T (j + 1)).m (T (j + 1)).cr)
include hstep
theorem ln_mono {i j : Nat} (h : i ≤ j) (hj : j ≤ ops.size) : ln T i ≤ ln T j := by
  induction j with
  | zero => rw [Nat.le_zero.1 h]; exact Nat.le_refl _
  | succ j ih =>
    rcases Nat.lt_or_ge i (j + 1) with hi | hi
    · exact Nat.le_trans (ih (by omega) (by omega)) (hstep j ops[j] (Array.getElem?_eq_getElem (by omega))).len
    · rw [show i = j + 1 by omega]; exact Nat.le_refl _
theorem hist {i : Nat} (hi : i ≤ ops.size) : ∀ t x, look (T i).σ t = some x → (∃ j o, j < i ∧ ops[j]? = some o ∧ o.dst = some t ∧ x = (T j).v) ∨ ((∀ j o, j < i → ops[j]? = some o → o.dst ≠ some t) ∧ look (T 0).σ t = some x) := by
  induction i with
  | zero => exact fun t x h => .inr ⟨fun j o hj => by omega, h⟩
  | succ i ih =>
    intro t x h
    have ho : ops[i]? = some ops[i] := Array.getElem?_eq_getElem (by omega)
    rcases (hstep i _ ho).slots t x h with ⟨h1, h2⟩ | ⟨h1, h2⟩
    · exact .inl ⟨i, _, by omega, ho, h1, h2⟩
    · rcases ih (by omega) t x h2 with ⟨j, o, k1, k2⟩ | ⟨k1, k2⟩
      · exact .inl ⟨j, o, by omega, k2⟩
      · refine .inr ⟨fun j o hj hjo => ?_, k2⟩
        rcases Nat.lt_or_ge j i with hji | hji
        · exact k1 j o hji hjo
        · obtain rfl : j = i := by omega
          rw [ho] at hjo; cases hjo
          exact h1
theorem made {i : Nat} (hi : i ≤ ops.size) (h0 : (T 0).cr = []) : (T i).cr.length = ln T i - ln T 0 ∧ ∀ id, ln T 0 ≤ id → id < ln T i → ∃ j, j < i ∧ (T i).cr.getD (id - ln T 0) 0 = j ∧ ln T j ≤ id ∧ id < ln T (j + 1) := by
  induction i with
  | zero => exact ⟨by simp [h0], fun id h1 h2 => by omega⟩
  | succ i ih =>
    obtain ⟨k1, k2⟩ := ih (by omega)
    have ho : ops[i]? = some ops[i] := Array.getElem?_eq_getElem (by omega)
    have hs := hstep i _ ho
    have hl := ln_mono hstep (Nat.zero_le i) (by omega)
    have hl' : ln T i ≤ ln T (i + 1) := hs.len
    have e : (T (i + 1)).cr = (T i).cr ++ List.replicate (ln T (i + 1) - ln T i) i := hs.crs
    refine ⟨by rw [e, List.length_append, k1, List.length_replicate]; omega, fun id h1 h2 => ?_⟩
    rcases Nat.lt_or_ge id (ln T i) with h3 | h3
    · obtain ⟨j, a1, a2, a3⟩ := k2 id h1 h3
      refine ⟨j, by omega, ?_, a3⟩
      rw [e, List.getD_eq_getElem?_getD, List.getElem?_append_left (by omega), ← List.getD_eq_getElem?_getD]
      exact a2
    · refine ⟨i, by omega, ?_, h3, h2⟩
      rw [e, List.getD_eq_getElem?_getD, List.getElem?_append_right (by omega), List.getElem?_replicate, if_pos (by omega)]
      rfl
variable (hchk : Chk ops M kb) (hown : OwnOK ops kb (ln T 0) W)
include hchk
omit hstep in
theorem pre_in {S : Nat → Prop} (hcl : ∀ i o, S i → ops[i]? = some o → ∀ e ∈ o.after.toList, Region.binds .any e = true → S e.on) :
    ∀ (i : Nat) (o : Oper), ops[i]? = some o → (∀ e ∈ o.after.toList, Region.binds .any e = true → S e.on) → ∀ j, j < i → (M.getD i 0).testBit j = true → S j := by
  intro i
  induction i using Nat.strongRecOn with
  | _ i ih =>
    intro o ho he j hj ht
    obtain ⟨e, h1, h2, h3⟩ := hchk.cert i o ho j hj ht
    have hS := he e h1 h2
    have hlt := hchk.edge i o ho e h1 h2
    rcases h3 with rfl | ⟨h3, h4⟩
    · exact hS
    · have hsz : i < ops.size := (Array.getElem?_eq_some_iff.1 ho).1
      have ho' : ops[e.on]? = some ops[e.on] := Array.getElem?_eq_getElem (by omega)
      exact ih e.on hlt _ ho' (fun e' he' hb' => hcl e.on _ hS ho' e' he' hb') j h3 h4
/-- What an operation that is ready reads is what the text's order reads. -/
theorem reads_ok {S : Nat → Prop} {a : Act} {w : World} {μ : Mu} (hI : AInv ops kb nt l0 W T S F w0 μ0 a w μ) {i : Nat} {o : Oper} (ho : ops[i]? = some o) (hS : ¬ S i) (hr : ∀ e ∈ o.after.toList, Region.binds .any e = true → S e.on)
    {t : Tmp} (htl : t ∈ o.looksAt ops) {x : Value} (hx : look (T i).σ t = some x) : VR (restr μ (ln T i)) x (a.tmps.getD t undef) := by
  have hsz : i < ops.size := (Array.getElem?_eq_some_iff.1 ho).1
  rcases hist hstep (Nat.le_of_lt hsz) t x hx with ⟨j, oj, hj, hoj, hd, rfl⟩ | ⟨hno, hx0⟩
  · have hp : (M.getD i 0).testBit j = true := by
      rcases hchk.reads i o j oj t ho hoj (by omega) hd htl with h | h
      · exact h.2
      · omega
    have hSj := pre_in hchk hI.closed i o ho hr j hj hp
    exact (hI.s1 j oj t hSj hoj hd).mono (restr_mono (fun _ _ h => h) (ln_mono hstep (by omega) (by omega)))
  · refine ((hI.s0 t x (fun k ok hSk hok hd => ?_) hx0).2).mono (restr_mono (fun _ _ h => h) (ln_mono hstep (Nat.zero_le _) (by omega)))
    rcases Nat.lt_trichotomy k i with h | h | h
    · exact hno k ok h hok hd
    · subst h; exact hS hSk
    · rcases hchk.reads i o k ok t ho hok (by omega) hd htl with h' | h'
      · omega
      · exact hS (pre_in hchk hI.closed k ok hok (fun e he hb => hI.closed k ok hSk hok e he hb) i h'.1 h'.2)
theorem operands_ok {S : Nat → Prop} {a : Act} {w : World} {μ : Mu} (hI : AInv ops kb nt l0 W T S F w0 μ0 a w μ) {i : Nat} {o : Oper} (ho : ops[i]? = some o) (hS : ¬ S i) (hr : ∀ e ∈ o.after.toList, Region.binds .any e = true → S e.on) :
    ∀ x u, x ∈ o.op.operands → ev (T i).σ x = some u → VR (restr μ (ln T i)) u (a.eval x) := by
  intro x u hx hu
  cases x with
  | tmp t => exact reads_ok hstep hchk hI ho hS hr (List.mem_append_left _ (List.mem_filterMap.2 ⟨.tmp t, by simpa using hx, rfl⟩)) hu
  | const c =>
    simp only [ev] at hu
    cases hp : plain 4 c <;> rw [hp] at hu
    · cases hu
    · rw [cond_true, Option.some.injEq] at hu
      subst hu
      exact plain_refl _ 4 _ hp
  | global g => cases hu
  | func f => cases hu; exact .func rfl (fun i u v h _ => by simp at h) rfl (fun i u v h _ => by simp at h)
theorem want_ok' {S : Nat → Prop} {a : Act} {w : World} {μ : Mu} (hd : dstsOK nt ops = true) (hI : AInv ops kb nt l0 W T S F w0 μ0 a w μ) {i : Nat} {o : Oper} (ho : ops[i]? = some o) (hS : ¬ S i) (hr : ∀ e ∈ o.after.toList, Region.binds .any e = true → S e.on) {b : Bool}
    (hw : Want ops (T i).σ o b) : Region.wanted o (yielded ops a.tmps) = b := by
  unfold Want at hw
  unfold Region.wanted
  cases hg : o.guard with
  | none => rw [hg] at hw; exact hw.symm
  | some g =>
    obtain ⟨j, want⟩ := g
    rw [hg] at hw
    obtain ⟨d, v, h1, h2, hv⟩ := hw
    have k2 := reads_ok hstep hchk hI ho hS hr (t := d) (List.mem_append_right _ (by rw [hg]; simp only []; rw [h1]; simp)) h2
    obtain ⟨oj, hoj, hdj⟩ := Option.bind_eq_some_iff.1 h1
    have k1 : d < a.tmps.size := by
      rw [hI.size]
      exact dstsOK_spec hd oj (by rw [← Array.getElem?_toList] at hoj; exact List.mem_of_getElem? hoj) d hdj
    rcases hv with ⟨c, rfl, rfl⟩ | ⟨rfl, rfl⟩
    rotate_left
    · have hy : yielded ops a.tmps j = none := yielded_undef h1 k1 k2
      simp only [hy]
      rfl
    have e := k2.bool'
    have hy : yielded ops a.tmps j = some c := by
      unfold yielded
      rw [h1]
      have : a.tmps[d]? = some (.bool c) := by
        rw [Array.getElem?_eq_getElem k1, ← e]
        simp [Array.getD, k1]
      simp [this]
    simp only [hy]
    cases c <;> cases want <;> rfl
omit hstep in
/-- The slots, and the rest beside memory, behind an operation. -/
theorem slots_step {S : Nat → Prop} {a : Act} {w w' : World} {μ μ' : Mu} (hd : dstsOK nt ops = true) (hI : AInv ops kb nt l0 W T S F w0 μ0 a w μ) {i : Nat} {o : Oper} (ho : ops[i]? = some o) (hr : ∀ e ∈ o.after.toList, Region.binds .any e = true → S e.on)
    {y : Value} (hv : VR (restr μ' (ln T (i + 1))) (T i).v y) (hs : ∀ id L, μ id = some L → μ' id = some L) (he : Ext (ln T 0) μ μ') (hdm : ∀ id, μ' id ≠ none → μ id ≠ none ∨ (ln T i ≤ id ∧ id < ln T (i + 1)))
    (hm : ((∀ k o, (S k ∨ k = i) → ops[k]? = some o → touch o.op = true → k < kb) ∧ MemA W T (fun k => S k ∨ k = i) F w0 μ' w') ∨ ∃ k, MemB ops kb T (fun k => S k ∨ k = i) F w0 μ' w' k) :
    AInv ops kb nt l0 W T (fun k => S k ∨ k = i) F w0 μ0 (a.put o.dst y) w' μ' where
  lt k hk := by
    rcases hk with hk | rfl
    · exact hI.lt k hk
    · exact (Array.getElem?_eq_some_iff.1 ho).1
  closed k ok hk hok e he hb := by
    rcases hk with hk | rfl
    · exact .inl (hI.closed k ok hk hok e he hb)
    · rw [ho] at hok; cases hok
      exact .inl (hr e he hb)
  size := by rw [Act.size_put]; exact hI.size
  defers := by rw [Act.defers_put]; exact hI.defers
  s1 k ok t hk hok hdk := by
    have hput : ∀ d, o.dst = some d → d < a.tmps.size := fun d hd' => by rw [hI.size]; exact dstsOK_spec hd o (by rw [← Array.getElem?_toList] at ho; exact List.mem_of_getElem? ho) d hd'
    by_cases hki : k = i
    · subst hki
      rw [ho] at hok; cases hok
      have := hput t hdk
      rw [hdk]
      simpa [Act.put, this] using hv
    · have hS : S k := by rcases hk with h | h; exact h; exact absurd h hki
      have hne : o.dst ≠ some t := hchk.one i o k ok t ho hok (fun e => hki e.symm) hdk
      have : (a.put o.dst y).tmps.getD t undef = a.tmps.getD t undef := by
        cases hdo : o.dst with
        | none => rfl
        | some d => simp [Act.put, show d ≠ t from fun e => hne (by rw [hdo, e])]
      rw [this]
      exact (hI.s1 k ok t hS hok hdk).mono (restr_mono hs (Nat.le_refl _))
  s0 t x hno hx := by
    have h := hI.s0 t x (fun k ok hk => hno k ok (.inl hk)) hx
    have hne : o.dst ≠ some t := hno i o (.inr rfl) ho
    have : (a.put o.dst y).tmps.getD t undef = a.tmps.getD t undef := by
      cases hdo : o.dst with
      | none => rfl
      | some d => simp [Act.put, show d ≠ t from fun e => hne (by rw [hdo, e])]
    rw [this]
    exact ⟨h.1, h.2.mono (restr_mono hs (Nat.le_refl _))⟩
  dom id hid := by
    rcases hdm id hid with h | h
    · rcases hI.dom id h with h | ⟨j, h1, h2⟩
      · exact .inl h
      · exact .inr ⟨j, .inl h1, h2⟩
    · exact .inr ⟨i, .inr rfl, h⟩
  ext := hI.ext.trans he
  mem := hm
omit hchk in
/-- Operations that leave memory alone. -/
theorem same_mem {c i : Nat} (hci : c ≤ i) (hi : i ≤ ops.size) (h : ∀ j o, c ≤ j → j < i → ops[j]? = some o → touch o.op = false) : (T i).m = (T c).m := by
  induction i with
  | zero => rw [Nat.le_zero.1 hci]
  | succ i ih =>
    rcases Nat.lt_or_ge c (i + 1) with hc | hc
    · have ho : ops[i]? = some ops[i] := Array.getElem?_eq_getElem (by omega)
      rw [← ih (by omega) (by omega) fun j o h1 h2 => h j o h1 (by omega)]
      have ht := h i _ (by omega) (by omega) ho
      rcases (hstep i _ ho).does with h1 | h1 | h1 | h1
      · exact h1.2.2
      · exact h1.2.2.1
      · rw [ht] at h1; cases h1.2.2.1
      · rw [ht] at h1; cases h1.2.2.1
    · rw [show c = i + 1 by omega]
omit hchk in
/-- Before the bar, blocks are only added; those that are owned change once. -/
theorem live_pre {c i id : Nat} (hci : c ≤ i) (hi : i ≤ ops.size) (h : ∀ j o, c ≤ j → j < i → ops[j]? = some o → touch o.op = true → j < kb) (hw : ∀ j, c ≤ j → j < i → (W.getD j []).contains id = false) (hid : id < ln T c) : live (T i).m id = live (T c).m id := by
  induction i with
  | zero => rw [Nat.le_zero.1 hci]
  | succ i ih =>
    rcases Nat.lt_or_ge c (i + 1) with hc | hc
    · have ho : ops[i]? = some ops[i] := Array.getElem?_eq_getElem (by omega)
      rw [← ih (by omega) (by omega) (fun j o h1 h2 => h j o h1 (by omega)) fun j h1 h2 => hw j h1 (by omega)]
      have hle := ln_mono hstep (show c ≤ i by omega) (by omega)
      rcases (hstep i _ ho).does with h1 | h1 | h1 | h1
      · rw [h1.2.2]
      · rw [h1.2.2.1]
      · obtain ⟨_, _, _, V0, M0, N, h2, h3, h4, _, h5, _⟩ := h1
        rw [h2]
        unfold live
        rw [List.getElem?_append_left (by rw [h4]; exact Nat.lt_of_lt_of_le hid hle), (h5 id (hw i (by omega) (by omega))).2]
      · have := h i _ (by omega) (by omega) ho h1.2.2.1
        omega
    · rw [show c = i + 1 by omega]
omit hchk hstep in
theorem memA_of {S S' : Nat → Prop} {μ : Mu} {w : World} (h : MemA W T S F w0 μ w) (hc : ∀ c id B, Cls W T S' c id → live (T c).m id = some B → ∃ c', Cls W T S c' id ∧ live (T c').m id = some B ∧ ln T c' ≤ ln T c) : MemA W T S' F w0 μ w where
  fr := h.fr
  blk c id B h1 h2 := by
    obtain ⟨c', k1, k2, k3⟩ := hc c id B h1 h2
    obtain ⟨L, a1, a2, a3⟩ := h.blk c' id B k1 k2
    exact ⟨L, a1, a2.mono (restr_mono (fun _ _ h => h) k3), a3⟩
  excl c c' id id' B B' L L' h1 h1' h2 h2' := by
    obtain ⟨d, k1, k2, _⟩ := hc c id B h1 h2
    obtain ⟨d', k1', k2', _⟩ := hc c' id' B' h1' h2'
    exact h.excl d d' id id' B B' L L' k1 k1' k2 k2'
include hown in
/-- What comes alone finds all blocks. -/
theorem full {S : Nat → Prop} {a : Act} {w : World} {μ : Mu} (h00 : (T 0).cr = []) (hI : AInv ops kb nt l0 W T S F w0 μ0 a w μ) {i : Nat} {o : Oper} (ho : ops[i]? = some o) (hS : ¬ S i) (hr : ∀ e ∈ o.after.toList, Region.binds .any e = true → S e.on)
    (hk : kb ≤ i) (ht : touch o.op = true) : (∀ j o', ops[j]? = some o' → touch o'.op = true → (S j ↔ j < i)) ∧ RepM F w0 (restr μ (ln T i)) (T i).m w := by
  have hsz : i < ops.size := (Array.getElem?_eq_some_iff.1 ho).1
  have hall : ∀ j o', ops[j]? = some o' → touch o'.op = true → (S j ↔ j < i) := fun j o' ho' ht' => by
    refine ⟨fun hj => ?_, fun hj => pre_in hchk hI.closed i o ho hr j hj (hchk.alone i o j o' ho ho' hk ht hj ht')⟩
    rcases Nat.lt_trichotomy j i with h | h | h
    · exact h
    · subst h; exact absurd hj hS
    · exact absurd (pre_in hchk hI.closed j o' ho' (fun e he hb => hI.closed j o' hj ho' e he hb) i h (hchk.alone j o' i o ho' ho (by omega) ht' h ht)) hS
  refine ⟨hall, ?_⟩
  rcases hI.mem with ⟨hA, hM⟩ | ⟨k, hB⟩
  · have hno : ∀ j o', j < i → ops[j]? = some o' → touch o'.op = true → j < kb := fun j o' hj ho' ht' => hA j o' ((hall j o' ho' ht').2 hj) ho' ht'
    have hcls : ∀ id B, live (T i).m id = some B → ∃ c, c ≤ i ∧ Cls W T S c id ∧ live (T c).m id = some B := fun id B hB => by
      have hid : id < ln T i := by
        rw [live_some] at hB
        exact (List.getElem?_eq_some_iff.1 hB).1
      rcases Nat.lt_or_ge id (ln T 0) with h | h
      · by_cases how : ∃ j, j < i ∧ (W.getD j []).contains id = true
        · obtain ⟨j, hj, hw⟩ := how
          obtain ⟨oj, hoj, htj⟩ := hown.touch j id hw
          refine ⟨j + 1, by omega, .inr ⟨j, rfl, (hall j oj hoj htj).2 hj, .inr hw⟩, ?_⟩
          rw [← live_pre hstep (show j + 1 ≤ i by omega) (by omega) (fun j o' _ h2 => hno j o' h2) (fun k h1 _ => ?_) (Nat.lt_of_lt_of_le h (ln_mono hstep (Nat.zero_le _) (by omega)))]
          · exact hB
          · cases hk : (W.getD k []).contains id with
            | false => rfl
            | true => have := hown.one j k id hw hk; omega
        · have hnw : ∀ j, j < i → (W.getD j []).contains id = false := fun j h2 => by
            cases hk : (W.getD j []).contains id with
            | false => rfl
            | true => exact absurd ⟨j, h2, hk⟩ how
          refine ⟨0, Nat.zero_le _, .inl ⟨rfl, h, fun j hj => ?_⟩, by rw [← live_pre hstep (Nat.zero_le i) (by omega) (fun j o' _ h2 => hno j o' h2) (fun j _ h2 => hnw j h2) h]; exact hB⟩
          cases hk : (W.getD j []).contains id with
          | false => rfl
          | true =>
            obtain ⟨oj, hoj, htj⟩ := hown.touch j id hk
            exact absurd ⟨j, (hall j oj hoj htj).1 hj, hk⟩ how
      · obtain ⟨j, h1, _, h3, h4⟩ := (made hstep (Nat.le_of_lt hsz) h00).2 id h hid
        have hoj : ops[j]? = some ops[j] := Array.getElem?_eq_getElem (by omega)
        have htj : touch ops[j].op = true := by
          rcases (hstep j _ hoj).does with h5 | h5 | h5 | h5
          · have := h5.2.2; unfold ln at *; rw [this] at h4; omega
          · have := h5.2.2.1; unfold ln at *; rw [this] at h4; omega
          · exact h5.2.2.1
          · exact h5.2.2.1
        refine ⟨j + 1, by omega, .inr ⟨j, rfl, (hall j _ hoj htj).2 h1, .inl ⟨h3, h4⟩⟩, ?_⟩
        rw [← live_pre hstep (show j + 1 ≤ i by omega) (by omega) (fun j o' _ h2 => hno j o' h2) (fun k _ _ => ?_) h4]
        · exact hB
        · cases hk : (W.getD k []).contains id with
          | false => rfl
          | true => have := hown.base k id hk; omega
    refine ⟨hM.fr.os, hM.fr.tape, hM.fr.output, hM.fr.size, hM.fr.frame, hM.fr.up, fun id B hB => ?_, fun id id' B B' L L' h1 h2 hne hl hl' => ?_⟩
    · obtain ⟨c, h1, h2, h3⟩ := hcls id B hB
      obtain ⟨L, k1, k2, k3⟩ := hM.blk c id B h2 h3
      have hid : id < ln T i := by
        rw [live_some] at hB
        exact (List.getElem?_eq_some_iff.1 hB).1
      exact ⟨L, by unfold restr; rw [if_pos hid]; exact k1, k2.mono (restr_mono (fun _ _ h => h) (ln_mono hstep h1 (by omega))), k3⟩
    · obtain ⟨c, _, a2, a3⟩ := hcls id B h1
      obtain ⟨c', _, b2, b3⟩ := hcls id' B' h2
      have un : ∀ {id L}, restr μ (ln T i) id = some L → μ id = some L := fun {id L} h => by
        unfold restr at h
        split at h
        · exact h
        · cases h
      exact hM.excl c c' id id' B B' L L' a2 b2 a3 b3 hne (un hl) (un hl')
  · obtain ⟨ok, hok, htk⟩ := hB.op
    have hki : k < i := (hall k ok hok htk).1 ((hB.all k ok hok htk).2 (Nat.le_refl _))
    have e : (T i).m = (T (k + 1)).m := same_mem hstep (show k + 1 ≤ i by omega) (by omega) fun j o' h1 h2 h3 => by
      cases ht' : touch o'.op with
      | false => rfl
      | true => have := (hB.all j o' h3 ht').1 ((hall j o' h3 ht').2 h2); omega
    have := hB.rep
    unfold ln at *
    rw [e]
    exact this
include hown in
/-- One operation, whichever is ready. -/
theorem any_step {S : Nat → Prop} {a : Act} {w : World} {μ : Mu} {Q : Exit → Act → World → Prop} {K : Act → World → Prop} (hd : dstsOK nt ops = true) (h00 : (T 0).cr = []) (hI : AInv ops kb nt l0 W T S F w0 μ0 a w μ) {i : Nat} {o : Oper} (ho : ops[i]? = some o) (hS : ¬ S i)
    (hr : ∀ e ∈ o.after.toList, Region.binds .any e = true → S e.on) (hK : ∀ a' w' μ', AInv ops kb nt l0 W T (fun k => S k ∨ k = i) F w0 μ0 a' w' μ' → K a' w') : wpOp P ops Q i K a w := by
  have hsz : i < ops.size := (Array.getElem?_eq_some_iff.1 ho).1
  have hstp := hstep i o ho
  have hle : ln T i ≤ ln T (i + 1) := hstp.len
  have hle0 := ln_mono hstep (Nat.zero_le i) (by omega)
  have hops := operands_ok hstep hchk hI ho hS hr
  unfold wpOp
  simp only [ho]
  -- nothing is added to the blocks, memory keeps
  have calm : ∀ {y : Value} {w' : World}, ln T (i + 1) = ln T i → (T (i + 1)).m = (T i).m → (touch o.op = true → kb ≤ i → False) → VR (restr μ (ln T i)) (T i).v y → w'.os = w.os → w'.tape = w.tape → w'.output = w.output → w.heap.size ≤ w'.heap.size →
      (∀ k, k < w.heap.size → w'.heap[k]? = w.heap[k]?) → K (a.put o.dst y) w' := fun {y w'} hl hmm hnb hv e1 e2 e3 e4 e5 => by
    refine hK _ _ μ (slots_step hchk hd hI ho hr (by rw [hl]; exact hv) (fun _ _ h => h) (Ext.refl _ _) (fun id h => .inl h) ?_)
    rcases hI.mem with ⟨hA, hM⟩ | ⟨k, hB⟩
    · refine .inl ⟨fun k ok hk hok ht => ?_, memA_of (hM.keep e1 e2 e3 e4 e5) fun c id B hc hB => ?_⟩
      rotate_left
      · rcases hc with ⟨rfl, h1, h2⟩ | ⟨j, rfl, hj | rfl, h3⟩
        · exact ⟨0, .inl ⟨rfl, h1, fun j hj => h2 j (.inl hj)⟩, hB, Nat.le_refl _⟩
        · exact ⟨j + 1, .inr ⟨j, rfl, hj, h3⟩, hB, Nat.le_refl _⟩
        · rcases h3 with ⟨h3, h4⟩ | h3
          · omega
          · refine ⟨0, .inl ⟨rfl, hown.base _ _ h3, fun k hk => ?_⟩, ?_, by omega⟩
            · cases hq : (W.getD k []).contains id with
              | false => rfl
              | true => have := hown.one j k id h3 hq; subst this; exact absurd hk hS
            · rw [hmm] at hB
              rw [← live_pre hstep (Nat.zero_le j) (by omega) (fun k o' _ h2 h5 h6 => by have := hown.kb j id h3; omega) (fun k _ h2 => ?_) (hown.base _ _ h3)]
              · exact hB
              · cases hq : (W.getD k []).contains id with
                | false => rfl
                | true => have := hown.one j k id h3 hq; omega
      rcases hk with hk | rfl
      · exact hA k ok hk hok ht
      · rw [ho] at hok; cases hok
        rcases Nat.lt_or_ge k kb with h | h
        · exact h
        · exact (hnb ht h).elim
    · refine .inr ⟨k, hB.op, hB.le, fun j o' ho' ht' => ?_, hB.rep.keep e1 e2 e3 e4 e5⟩
      rw [← hB.all j o' ho' ht']
      refine ⟨fun h => ?_, .inl⟩
      rcases h with h | rfl
      · exact h
      · rw [ho] at ho'; cases ho'
        have hk : ¬ kb ≤ j := fun h => hnb ht' h
        exact (hB.all j o ho ht').2 (by have := hB.le; omega)
  rcases hstp.does with ⟨hw, hv, hm⟩ | ⟨hw, ht, hm, hop⟩ | ⟨hw, hi, ht, V0, M0, N, hm, hV0, hM0, hN, hV1, hV2, hop⟩ | ⟨hw, hi, ht, hop⟩
  · rw [if_neg (by rw [want_ok' hstep hchk hd hI ho hS hr hw]; simp)]
    by_cases hb : touch o.op = true ∧ kb ≤ i
    · obtain ⟨hall, hrep⟩ := full hstep hchk hown h00 hI ho hS hr hb.2 hb.1
      refine hK _ _ μ (slots_step hchk hd hI ho hr (by rw [hv]; exact vr_undef _) (fun _ _ h => h) (Ext.refl _ _) (fun id h => .inl h) (.inr ⟨i, ⟨o, ho, hb.1⟩, hb.2, fun j o' ho' ht' => ?_, ?_⟩))
      · rw [hall j o' ho' ht']; omega
      · unfold ln at *
        rw [hm]
        exact hrep
    · exact calm (by unfold ln; rw [hm]) hm (fun h1 h2 => hb ⟨h1, h2⟩) (by rw [hv]; exact vr_undef _) rfl rfl rfl (Nat.le_refl _) (fun _ _ => rfl)
  · rw [if_pos (want_ok' hstep hchk hd hI ho hS hr hw)]
    refine .inl (hop.ok (fun k => w.heap.size ≤ k) w (restr μ (ln T i)) a w K Q (by simpa [holes] using restr_dom μ (ln T i)) ⟨rfl, rfl, rfl, Nat.le_refl _, fun _ _ => rfl, (by rcases hI.mem with ⟨_, hM⟩ | ⟨_, hB⟩; exact hM.fr.here; exact ⟨fun _ h => h, hB.rep.here⟩), fun id B hB => (holes_live _ _ _ hB).elim, fun id id' B B' L L' h1 => (holes_live _ _ _ h1).elim⟩
      (fun x u hx hu => hops x u hx hu) fun μ2 y w' he hdm hrp hv => ?_)
    have e : μ2 = restr μ (ln T i) := by
      funext id
      rcases Nat.lt_or_ge id (ln T i) with h | h
      · exact he id (by simpa [holes] using h)
      · rw [hdm id (by simpa [holes] using h), restr_dom μ _ id h]
    subst e
    exact calm (by unfold ln; rw [hm]) hm (fun h => by rw [ht] at h; cases h) hv hrp.os hrp.tape hrp.output hrp.size fun k hk => hrp.frame k (by omega)
  · rw [if_pos (want_ok' hstep hchk hd hI ho hS hr hw)]
    rcases hI.mem with ⟨hA, hM⟩ | ⟨k, hB⟩
    case inr => exact absurd ((hB.all i o ho ht).2 (by have := hB.le; omega)) hS
    obtain ⟨p, hp⟩ : ∃ p : Nat → Bool, (fun j => (M.getD i 0).testBit j) = p := ⟨_, rfl⟩
    rw [hp] at hop hV1
    have hlN : ln T (i + 1) = ln T i + N.length := by unfold ln; rw [hm, List.length_append, hM0]
    have early : ∀ (c j : Nat) (o' : Oper), c ≤ j → j < i → ops[j]? = some o' → touch o'.op = true → j < kb := fun c j o' _ h _ _ => by omega
    -- what is owned by this operation is as it was
    have hmine : ∀ id, (W.getD i []).contains id = true → Cls W T S 0 id ∧ live (T 0).m id = live (T i).m id := fun id hid => by
      refine ⟨.inl ⟨rfl, hown.base _ _ hid, fun k hk => ?_⟩, ?_⟩
      · cases hq : (W.getD k []).contains id with
        | false => rfl
        | true => have := hown.one i k id hid hq; subst this; exact absurd hk hS
      · exact (live_pre hstep (Nat.zero_le i) (by omega) (early 0) (fun k _ h2 => by
          cases hq : (W.getD k []).contains id with
          | false => rfl
          | true => have := hown.one i k id hid hq; omega) (hown.base _ _ hid)).symm
    have hcls : ∀ id B, live (visO (ln T 0) (T i).cr W i p (T i).m) id = some B → id < ln T i ∧ (((W.getD i []).contains id = true ∧ live (T 0).m id = some B) ∨ ((W.getD i []).contains id = false ∧ ∃ B' c, c ≤ i ∧ B = { B' with rw := false } ∧ Cls W T S c id ∧ live (T c).m id = some B')) := fun id B hB => by
      rcases visO_live hB with ⟨h1, h2⟩ | ⟨h0, B', h1, h2, h3⟩
      · refine ⟨?_, .inl ⟨h1, by rw [(hmine id h1).2]; exact h2⟩⟩
        rw [live_some] at h2
        exact (List.getElem?_eq_some_iff.1 h2).1
      · have hid : id < ln T i := by
          rw [live_some] at h1
          exact (List.getElem?_eq_some_iff.1 h1).1
        have hnow : ∀ k, (W.getD k []).contains id = false := fun k => by
          cases hq : (W.getD k []).contains id with
          | false => rfl
          | true => rw [owned_is hq] at h0; cases h0
        refine ⟨hid, .inr ⟨hnow i, B', ?_⟩⟩
        rcases Nat.lt_or_ge id (ln T 0) with h | h
        · exact ⟨0, Nat.zero_le _, h2, .inl ⟨rfl, h, fun k _ => hnow k⟩, by rw [← live_pre hstep (Nat.zero_le i) (by omega) (early 0) (fun k _ _ => hnow k) h]; exact h1⟩
        · obtain ⟨j, k1, k2, k3, k4⟩ := (made hstep (Nat.le_of_lt hsz) h00).2 id h hid
          rcases h3 with h3 | h3
          · omega
          · rw [k2, ← hp] at h3
            exact ⟨j + 1, by omega, h2, .inr ⟨j, rfl, pre_in hchk hI.closed i o ho hr j k1 h3, .inl ⟨k3, k4⟩⟩, by rw [← live_pre hstep (show j + 1 ≤ i by omega) (by omega) (early _) (fun k _ _ => hnow k) k4]; exact h1⟩
    -- the blocks that this operation may change
    obtain ⟨F', hF'⟩ : ∃ F' : Nat → Prop, F' = fun k => w.heap.size ≤ k ∨ ∃ id B L, (W.getD i []).contains id = true ∧ live (T 0).m id = some B ∧ μ id = some L ∧ Rw B L ∧ k = L.b := ⟨_, rfl⟩
    have hFF : ∀ k, F' k → F k := fun k hk => by
      rw [hF'] at hk
      rcases hk with hk | ⟨id, B, L, h1, h2, h3, h4, rfl⟩
      · exact hM.fr.up _ (Nat.le_trans hM.fr.size hk)
      · obtain ⟨L', k1, _, k3⟩ := hM.blk 0 id B (hmine id h1).1 h2
        rw [h3] at k1; cases k1
        exact k3 h4
    have hrep : RepM F' w (restr μ (ln T i)) (visO (ln T 0) (T i).cr W i p (T i).m) w := by
      refine ⟨rfl, rfl, rfl, Nat.le_refl _, fun _ _ => rfl, ⟨fun k h => by rw [hF']; exact .inl h, hM.fr.up.amb.mono hFF hM.fr.frame⟩, fun id B hB => ?_, fun id id' B B' L L' h1 h2 hne hl hl' hrw htk => ?_⟩
      · obtain ⟨hid, ⟨h1, h2⟩ | ⟨_, B', c, hc, rfl, h1, h2⟩⟩ := hcls id B hB
        · obtain ⟨L, k1, k2, k3⟩ := hM.blk 0 id B (hmine id h1).1 h2
          exact ⟨L, by unfold restr; rw [if_pos hid]; exact k1, k2.mono (restr_mono (fun _ _ h => h) hle0), fun h => by rw [hF']; exact .inr ⟨id, B, L, h1, h2, k1, h, rfl⟩⟩
        · obtain ⟨L, k1, k2, k3⟩ := hM.blk c id B' h1 h2
          have k2' := k2.mono (restr_mono (μ' := μ) (fun _ _ h => h) (ln_mono hstep hc (by omega)))
          exact ⟨L, by unfold restr; rw [if_pos hid]; exact k1, ⟨fun h => (by cases h), k2'.z, k2'.cells, fun hr hb => k2'.row hr (.inr (by rcases hb with hb | hb; cases hb.1; exact hb)), k2'.mN⟩, fun h => (by cases h.1)⟩
      · have un : ∀ {id L}, restr μ (ln T i) id = some L → μ id = some L := fun {id L} h => by
          unfold restr at h
          split at h
          · exact h
          · cases h
        obtain ⟨_, ⟨a1, a2⟩ | ⟨_, B1, _, _, rfl, _⟩⟩ := hcls id B h1
        · obtain ⟨_, ⟨b1, b2⟩ | ⟨_, B1, c, _, rfl, b1, b2⟩⟩ := hcls id' B' h2
          · exact hM.excl 0 0 id id' B B' L L' (hmine id a1).1 (hmine id' b1).1 a2 b2 hne (un hl) (un hl') hrw htk
          · exact hM.excl 0 c id id' B B1 L L' (hmine id a1).1 b1 a2 b2 hne (un hl) (un hl') hrw (.inr (by rcases htk with hb | hb; cases hb.1; exact hb))
        · cases hrw.1
    refine .inl (hop.ok F' w (restr μ (ln T i)) a w K Q (by rw [visO_len]; exact restr_dom μ _) hrep (fun x u hx hu => hops x u hx hu) fun μ2 y w' he hdm hrp hv => ?_)
    rw [visO_len] at he
    rw [List.length_append, hV0] at hdm
    have hfresh : ∀ id, ln T i ≤ id → id < ln T (i + 1) → μ id = none := fun id h1 h2 => by
      cases hq : μ id with
      | none => rfl
      | some L =>
        rcases hI.dom id (by rw [hq]; simp) with h | ⟨j, h3, h4, h5⟩
        · omega
        · have hj := hI.lt j h3
          rcases Nat.lt_trichotomy j i with h | h | h
          · have := ln_mono hstep (show j + 1 ≤ i by omega) (by omega); omega
          · subst h; exact absurd h3 hS
          · have := ln_mono hstep (show i + 1 ≤ j by omega) (by omega); omega
    have hsub : ∀ id L, μ id = some L → joinMu μ μ2 (ln T i) (ln T (i + 1)) id = some L := fun id L h => by
      unfold joinMu
      split
      · rename_i hc; rw [hfresh id hc.1 hc.2] at h; cases h
      · exact h
    have hres : restr (joinMu μ μ2 (ln T i) (ln T (i + 1))) (ln T (i + 1)) = μ2 := by
      funext id
      unfold restr joinMu
      rcases Nat.lt_or_ge id (ln T (i + 1)) with h | h
      · rw [if_pos h]
        rcases Nat.lt_or_ge id (ln T i) with h' | h'
        · rw [if_neg (by omega), he id h']
          unfold restr
          rw [if_pos h']
        · rw [if_pos ⟨h', h⟩]
      · rw [if_neg (by omega), hdm id (by have hl0 : (T i).m.length = ln T i := rfl; omega)]
    have hold : ∀ {id : Nat}, id < ln T i → joinMu μ μ2 (ln T i) (ln T (i + 1)) id = μ id := fun {id} h => by unfold joinMu; rw [if_neg (by omega)]
    -- memory outside is as it was
    have hfar : ∀ {c id B L}, Cls W T S c id → live (T c).m id = some B → μ id = some L → Takes B L → (W.getD i []).contains id = false → L.b < w.heap.size ∧ ¬ F' L.b := fun {c id B L} hc hB hL hb hnid => by
      obtain ⟨L', k1, k2, k3⟩ := hM.blk c id B hc hB
      rw [hL] at k1; cases k1
      refine ⟨k2.lt hb, fun hF => ?_⟩
      rw [hF'] at hF
      rcases hF with hF | ⟨id0, B0, L0, h1, h2, h3, h4, h5⟩
      · have := k2.lt hb; omega
      · refine hM.excl 0 c id0 id B0 B L0 L (hmine id0 h1).1 hc h2 hB ?_ h3 hL h4 hb h5.symm
        rintro rfl
        rw [hnid] at h1; cases h1
    have hfr : FrW F w0 w' := ⟨hrp.os.trans hM.fr.os, hrp.tape.trans hM.fr.tape, hrp.output.trans hM.fr.output, Nat.le_trans hM.fr.size hrp.size, fun k hk => (hrp.frame k fun h => hk (hFF k h)).trans (hM.fr.frame k hk), hM.fr.up⟩
    -- the classes behind this operation: old ones, and mine
    have hcase : ∀ {c id B}, Cls W T (fun k => S k ∨ k = i) c id → live (T c).m id = some B → (Cls W T S c id ∧ (W.getD i []).contains id = false) ∨ (c = i + 1 ∧ live (V0 ++ N) id = some B ∧ B.rw = true ∧ ((ln T i ≤ id ∧ id < ln T (i + 1)) ∨ (W.getD i []).contains id = true)) := fun {c id B} hc hB => by
      have hnb : ∀ {j}, S j → (ln T j ≤ id ∧ id < ln T (j + 1)) ∨ (W.getD j []).contains id = true → (W.getD i []).contains id = false := fun {j} hj h => by
        cases hq : (W.getD i []).contains id with
        | false => rfl
        | true =>
          rcases h with ⟨h, _⟩ | h
          · have := hown.base i id hq
            have := hI.lt j hj
            have := ln_mono hstep (Nat.zero_le j) (by omega)
            omega
          · have := hown.one i j id hq h
            subst this
            exact absurd hj hS
      rcases hc with ⟨rfl, h1, h2⟩ | ⟨j, rfl, hj | rfl, h3⟩
      · exact .inl ⟨.inl ⟨rfl, h1, fun j hj => h2 j (.inl hj)⟩, h2 i (.inr rfl)⟩
      · exact .inl ⟨.inr ⟨j, rfl, hj, h3⟩, hnb hj h3⟩
      · right
        refine ⟨rfl, ?_⟩
        rcases h3 with ⟨h3, h4⟩ | h3
        · have hmem : (N[id - ln T j]?) = some (some B) := by
            rw [hm, live_some, List.getElem?_append_right (by rw [hM0]; exact h3), hM0] at hB
            exact hB
          refine ⟨?_, List.all_eq_true.1 hN (some B) (List.mem_of_getElem? hmem), .inl ⟨h3, h4⟩⟩
          rw [live_some, List.getElem?_append_right (by rw [hV0]; exact h3), hV0]
          exact hmem
        · have hlt : id < (T j).m.length := by
            have h5 := hown.base _ _ h3
            have h6 := hle0
            unfold ln at h5 h6
            omega
          have hB' : V0[id]? = some (some B) := by
            rw [hm, live_some, List.getElem?_append_left (by omega), (hV2 id h3).1] at hB
            exact hB
          refine ⟨?_, (hV2 id h3).2 B hB', .inr h3⟩
          rw [live_some, List.getElem?_append_left (by omega)]
          exact hB'
    have hmu : ∀ {id L}, ((ln T i ≤ id ∧ id < ln T (i + 1)) ∨ (W.getD i []).contains id = true) → joinMu μ μ2 (ln T i) (ln T (i + 1)) id = some L → μ2 id = some L := fun {id L} hc h => by
      rcases hc with hc | hc
      · unfold joinMu at h
        rw [if_pos hc] at h
        exact h
      · have hlt : id < ln T i := Nat.lt_of_lt_of_le (hown.base _ _ hc) hle0
        rw [hold hlt] at h
        rw [he id hlt]
        unfold restr
        rw [if_pos hlt]
        exact h
    refine hK _ _ (joinMu μ μ2 (ln T i) (ln T (i + 1))) (slots_step hchk hd hI ho hr (by rw [hres]; exact hv) hsub (fun id h => hold (by omega)) (fun id h => ?_) (.inl ⟨fun k ok hk hok htk => ?_, hfr, fun c id B hc hB => ?_, fun c c' id id' B B' L L' hc hc' hB hB' hne hL hL' hrw hb => ?_⟩))
    · by_cases hc : ln T i ≤ id ∧ id < ln T (i + 1)
      · exact .inr hc
      · left
        unfold joinMu at h
        rwa [if_neg hc] at h
    · rcases hk with hk | rfl
      · exact hA k ok hk hok htk
      · exact hi
    · rcases hcase hc hB with ⟨hc, hnid⟩ | ⟨rfl, h1, h2, h3⟩
      · obtain ⟨L, k1, k2, k3⟩ := hM.blk c id B hc hB
        exact ⟨L, hsub _ _ k1, (k2.keep fun hb => hrp.frame _ (hfar hc hB k1 hb hnid).2).mono (restr_mono hsub (Nat.le_refl _)), k3⟩
      · obtain ⟨L, k1, k2, k3⟩ := hrp.blk id B h1
        refine ⟨L, ?_, by rw [hres]; exact k2, fun h => hFF _ (k3 h)⟩
        rcases h3 with h3 | h3
        · unfold joinMu; rw [if_pos h3]; exact k1
        · have hlt : id < ln T i := Nat.lt_of_lt_of_le (hown.base _ _ h3) hle0
          rw [hold hlt]
          rw [he id hlt] at k1
          unfold restr at k1
          rwa [if_pos hlt] at k1
    · have old : ∀ {c id B L}, Cls W T S c id → live (T c).m id = some B → joinMu μ μ2 (ln T i) (ln T (i + 1)) id = some L → μ id = some L := fun {c id B L} hc hB hL => by
        obtain ⟨L', k1, _, _⟩ := hM.blk c id B hc hB
        rw [hsub _ _ k1] at hL
        rwa [hL] at k1
      have mine : ∀ {id B L}, live (V0 ++ N) id = some B → μ2 id = some L → Rw B L → F' L.b := fun {id B L} h1 h2 h3 => by
        obtain ⟨L', k1, _, k3⟩ := hrp.blk id B h1
        rw [h2] at k1; cases k1
        exact k3 h3
      rcases hcase hc hB with ⟨p1, p2⟩ | ⟨_, p1, p2, p3⟩ <;> rcases hcase hc' hB' with ⟨q1, q2⟩ | ⟨_, q1, q2, q3⟩
      · exact hM.excl c c' id id' B B' L L' p1 q1 hB hB' hne (old p1 hB hL) (old q1 hB' hL') hrw hb
      · intro e
        have hL2 := hmu q3 hL'
        obtain ⟨L2, k1, k2, _⟩ := hrp.blk id' B' q1
        rw [hL2] at k1; cases k1
        have hF := mine q1 hL2 (k2.act q2 hb)
        rw [← e] at hF
        exact (hfar p1 hB (old p1 hB hL) (.inl hrw) p2).2 hF
      · intro e
        have hF := mine p1 (hmu p3 hL) hrw
        rw [e] at hF
        exact (hfar q1 hB' (old q1 hB' hL') hb q2).2 hF
      · exact hrp.excl id id' B B' L L' p1 q1 hne (hmu p3 hL) (hmu q3 hL') hrw hb
  · rw [if_pos (want_ok' hstep hchk hd hI ho hS hr hw)]
    obtain ⟨hall, hrep⟩ := full hstep hchk hown h00 hI ho hS hr hi ht
    refine .inl (hop.ok F w0 (restr μ (ln T i)) a w K Q (restr_dom μ _) hrep (fun x u hx hu => hops x u hx hu) fun μ2 y w' he hdm hrp hv => ?_)
    have hfresh : ∀ id, ln T i ≤ id → id < ln T (i + 1) → μ id = none := fun id h1 h2 => by
      cases hq : μ id with
      | none => rfl
      | some L =>
        rcases hI.dom id (by rw [hq]; simp) with h | ⟨j, h3, h4, h5⟩
        · omega
        · have hj := hI.lt j h3
          rcases Nat.lt_trichotomy j i with h | h | h
          · have := ln_mono hstep (show j + 1 ≤ i by omega) (by omega); omega
          · subst h; exact absurd h3 hS
          · have := ln_mono hstep (show i + 1 ≤ j by omega) (by omega); omega
    have hsub : ∀ id L, μ id = some L → joinMu μ μ2 (ln T i) (ln T (i + 1)) id = some L := fun id L h => by
      unfold joinMu
      split
      · rename_i hc; rw [hfresh id hc.1 hc.2] at h; cases h
      · exact h
    have hres : restr (joinMu μ μ2 (ln T i) (ln T (i + 1))) (ln T (i + 1)) = μ2 := by
      funext id
      unfold restr joinMu
      rcases Nat.lt_or_ge id (ln T (i + 1)) with h | h
      · rw [if_pos h]
        rcases Nat.lt_or_ge id (ln T i) with h' | h'
        · rw [if_neg (by omega), he id h']
          unfold restr
          rw [if_pos h']
        · rw [if_pos ⟨h', h⟩]
      · rw [if_neg (by omega), hdm id h]
    refine hK _ _ (joinMu μ μ2 (ln T i) (ln T (i + 1))) (slots_step hchk hd hI ho hr (by rw [hres]; exact hv) hsub (fun id h => by unfold joinMu; rw [if_neg (by omega)]) (fun id h => ?_) (.inr ⟨i, ⟨o, ho, ht⟩, hi, fun j o' ho' ht' => ?_, by rw [hres]; exact hrp⟩))
    · by_cases hc : ln T i ≤ id ∧ id < ln T (i + 1)
      · exact .inr hc
      · left
        unfold joinMu at h
        rwa [if_neg hc] at h
    · rw [hall j o' ho' ht']; omega
include hown in
theorem any_sound {Q : Exit → Act → World → Prop} (hd : dstsOK nt ops = true) (h00 : (T 0).cr = []) (hQ : ∀ a w μ, AInv ops kb nt l0 W T (fun i => i < ops.size) F w0 μ0 a w μ → Q .normal a w) :
    ∀ (fuel : Nat) (listed : Array Bool) (a : Act) (w : World) (μ : Mu), listed.size = ops.size → ((List.range ops.size).countP fun i => !listed.getD i false) ≤ fuel → AInv ops kb nt l0 W T (fun i => listed.getD i false = true) F w0 μ0 a w μ →
      wpAny P .any ops Q fuel listed a w := by
  have full : ∀ (listed : Array Bool) (a : Act) (w : World) (μ : Mu), listed.size = ops.size → AInv ops kb nt l0 W T (fun i => listed.getD i false = true) F w0 μ0 a w μ → Region.ready .any ops listed = [] → Q .normal a w := fun listed a w μ hsz hI hr => by
    have hall : ∀ i, i < ops.size → listed.getD i false = true := by
      intro i
      induction i using Nat.strongRecOn with
      | _ i ih =>
        intro hi
        cases hl : listed.getD i false with
        | true => rfl
        | false =>
          have ho : ops[i]? = some ops[i] := Array.getElem?_eq_getElem hi
          have : i ∈ Region.ready .any ops listed := mem_ready.2 ⟨by simp [Array.getD, hsz, hi] at hl ⊢; exact hl, _, ho, fun e he hb => by
            have := hchk.edge i _ ho e (by simpa using he) hb
            exact ih e.on this (by omega)⟩
          rw [hr] at this
          cases this
    have e : (fun i => listed.getD i false = true) = fun i => i < ops.size := by
      funext i
      apply propext
      refine ⟨fun h => hI.lt i h, hall i⟩
    rw [e] at hI
    exact hQ a w μ hI
  intro fuel
  induction fuel with
  | zero =>
    intro listed a w μ hsz hc hI
    have hr : Region.ready .any ops listed = [] := by
      apply List.eq_nil_iff_forall_not_mem.2
      intro i hi
      obtain ⟨h1, o, ho, _⟩ := mem_ready.1 hi
      have hi' : i < ops.size := (Array.getElem?_eq_some_iff.1 ho).1
      have := List.countP_eq_zero.1 (Nat.le_zero.1 hc) i (List.mem_range.2 hi')
      simp [Array.getD, hsz, hi'] at h1 this
      rw [h1] at this; cases this
    exact ⟨hr, full listed a w μ hsz hI hr⟩
  | succ fuel ih =>
    intro listed a w μ hsz hc hI
    refine ⟨full listed a w μ hsz hI, fun i hi => ?_⟩
    obtain ⟨h1, o, ho, he⟩ := mem_ready.1 hi
    have hi' : i < ops.size := (Array.getElem?_eq_some_iff.1 ho).1
    have hS : ¬ listed.getD i false = true := by
      simp [Array.getD, hsz, hi'] at h1 ⊢
      exact h1
    refine any_step hstep hchk hown hd h00 hI ho hS (fun e hem hb => he e (by simpa using hem) hb) fun a' w' μ' hI' => ?_
    refine ih _ a' w' μ' (by simpa using hsz) ?_ ?_
    · have hlt : ((List.range ops.size).countP fun j => !(listed.setIfInBounds i true).getD j false) < (List.range ops.size).countP fun j => !listed.getD j false := by
        refine countP_lt (a := i) (fun j hj h => ?_) (List.mem_range.2 hi') (by simpa using hS) (by simp [Array.getD, hsz, hi'])
        have hj' := List.mem_range.1 hj
        by_cases hij : i = j
        · subst hij; simp [Array.getD, hsz, hi'] at h
        · simpa [Array.getD, hsz, hj', Array.getElem_setIfInBounds_ne, hij] using h
      omega
    · have e : (fun j => (listed.setIfInBounds i true).getD j false = true) = fun k => listed.getD k false = true ∨ k = i := by
        funext j
        apply propext
        by_cases hij : i = j
        · subst hij; simp [Array.getD, hsz, hi']
        · have : (listed.setIfInBounds i true).getD j false = listed.getD j false := by
            simp only [Array.getD, Array.size_setIfInBounds]
            split
            · exact Array.getElem_setIfInBounds_ne _ hij
            · rfl
          rw [this]
          constructor
          · exact .inl
          · rintro (h | h)
            · exact h
            · exact absurd h.symm hij
      rw [e]
      exact hI'
end
/-- A region that draws its order, whose operations may write blocks of their own. -/
theorem aw_region_o {P : Program} {nt n0 : Nat} {Q : Exit → Slots → Mem → Prop} {σ : Slots} {m : Mem} {id : Nat} {ops : Array Oper} (M : List Nat) (kb : Nat) (W : List (List Nat)) (hf : P.follows .mixedOrders = true) (hc : chkD ops M kb = true) (hd : dstsOK nt ops = true) (hn : n0 ≤ m.length) (hw : chkW ops kb m.length W = true)
    (h : RunO P ops M kb m.length W (fun σ' m' => Q .normal σ' m') 0 ops.toList σ m []) : AW P nt n0 (.region id ops true) Q σ m := by
  constructor
  intro rd F w0 μ a w _ hr
  obtain ⟨T, h1, h2, h3, h4, σe, h5, h6⟩ := trace h
  have hstep : ∀ (j : Nat) (o : Oper), ops[j]? = some o → Step P ops M kb (ln T 0) W j o (T j).σ (T j).m (T j).cr (T j).v (T (j + 1)).σ (T (j + 1)).m (T (j + 1)).cr := fun j o ho => by
    have := h4 j o (by rw [Array.getElem?_toList]; exact ho)
    rw [Nat.zero_add] at this
    unfold ln
    rw [h2]
    exact this
  have hl0 : ln T 0 = m.length := by unfold ln; rw [h2]
  have hlen : ops.toList.length = ops.size := by simp
  refine wpIn_mono (Q := NormalQ fun a' w' => Pt rd nt n0 F w0 μ a.defers Q .normal a' w') (wpIn_region_any hf (wpAny_in (fun ⟨_, _, h⟩ => h) (dstsOK_nd hd) _ _ _ _ (any_sound hstep (chkD_spec hc) (by rw [hl0]; exact chkW_spec hw) (nt := nt) (F := F) (w0 := w0) (μ0 := μ) (l0 := a.defers) hd h3 (fun a' w' μ' hI => ?_) ops.size _ a _ μ (by simp) ?_ ?_))) (fun e a' w' hq => by cases e <;> first | exact hq | exact hq.elim)
  · have hle := ln_mono hstep (Nat.zero_le ops.size) (Nat.le_refl _)
    have hmono : ∀ j, j < ops.size → ln T (j + 1) ≤ ln T ops.size := fun j hj => ln_mono hstep (by omega) (Nat.le_refl _)
    have hdom : Dom μ' (ln T ops.size) := fun id hid => by
      cases hq : μ' id with
      | none => rfl
      | some L =>
        rcases hI.dom id (by rw [hq]; simp) with h | ⟨j, k1, k2, k3⟩
        · omega
        · have := hmono j k1; omega
    have hres : restr μ' (ln T ops.size) = μ' := by
      funext id
      unfold restr
      split
      · rfl
      · exact (hdom id (by omega)).symm
    refine ⟨F, w0, μ', σe, (T ops.size).m, by rw [hI.defers]; exact Reb.refl _ _ _ _, fun id hid => hI.ext id (by omega), ⟨hI.size, by rw [hI.defers]; exact hr.defers, fun t x hx => ?_, ?_, hdom⟩, by rw [hlen] at h6; exact h6⟩
    · have hx := h5 t x hx
      rw [hlen] at hx
      rcases hist hstep (Nat.le_refl _) t x hx with ⟨j, o, k1, k2, k3, rfl⟩ | ⟨k1, k2⟩
      · refine ⟨?_, (hI.s1 j o t k1 k2 k3).mono (fun id L h => by unfold restr at h; split at h; exact h; cases h)⟩
        rw [hI.size]
        exact dstsOK_spec hd o (by rw [← Array.getElem?_toList] at k2; exact List.mem_of_getElem? k2) t k3
      · have := hI.s0 t x (fun i o hi ho => k1 i o hi ho) k2
        exact ⟨by rw [hI.size]; exact this.1, this.2.mono (fun id L h => by unfold restr at h; split at h; exact h; cases h)⟩
    · rcases hI.mem with ⟨hA, hM⟩ | ⟨k, hB⟩
      · have hcls : ∀ id B, live (T ops.size).m id = some B → ∃ c, c ≤ ops.size ∧ Cls W T (fun i => i < ops.size) c id ∧ live (T c).m id = some B := fun id B hB => by
          have hid : id < ln T ops.size := by
            rw [live_some] at hB
            exact (List.getElem?_eq_some_iff.1 hB).1
          have early : ∀ (c j : Nat) (o' : Oper), c ≤ j → j < ops.size → ops[j]? = some o' → touch o'.op = true → j < kb := fun c j o' _ h ho ht => hA j o' h ho ht
          have hown : OwnOK ops kb (ln T 0) W := by rw [hl0]; exact chkW_spec hw
          rcases Nat.lt_or_ge id (ln T 0) with h | h
          · by_cases how : ∃ j, (W.getD j []).contains id = true
            · obtain ⟨j, hw'⟩ := how
              obtain ⟨oj, hoj, htj⟩ := hown.touch j id hw'
              have hj : j < ops.size := (Array.getElem?_eq_some_iff.1 hoj).1
              refine ⟨j + 1, by omega, .inr ⟨j, rfl, hj, .inr hw'⟩, ?_⟩
              rw [← live_pre hstep (show j + 1 ≤ ops.size by omega) (Nat.le_refl _) (early _) (fun k h1 _ => ?_) (Nat.lt_of_lt_of_le h (ln_mono hstep (Nat.zero_le _) (by omega)))]
              · exact hB
              · cases hk : (W.getD k []).contains id with
                | false => rfl
                | true => have := hown.one j k id hw' hk; omega
            · have hno' : ∀ j, (W.getD j []).contains id = false := fun j => by
                cases hk : (W.getD j []).contains id with
                | false => rfl
                | true => exact absurd ⟨j, hk⟩ how
              exact ⟨0, Nat.zero_le _, .inl ⟨rfl, h, fun j _ => hno' j⟩, by rw [← live_pre hstep (Nat.zero_le _) (Nat.le_refl _) (early 0) (fun j _ _ => hno' j) h]; exact hB⟩
          · obtain ⟨j, k1, _, k3, k4⟩ := (made hstep (Nat.le_refl _) h3).2 id h hid
            refine ⟨j + 1, by omega, .inr ⟨j, rfl, k1, .inl ⟨k3, k4⟩⟩, ?_⟩
            rw [← live_pre hstep (show j + 1 ≤ ops.size by omega) (Nat.le_refl _) (early _) (fun k _ _ => ?_) k4]
            · exact hB
            · cases hk : (W.getD k []).contains id with
              | false => rfl
              | true => have := hown.base k id hk; omega
        refine ⟨hM.fr.os, hM.fr.tape, hM.fr.output, hM.fr.size, hM.fr.frame, hM.fr.up, fun id B hB => ?_, fun id id' B B' L L' a1 a2 hne hl hl' => ?_⟩
        · obtain ⟨c, _, b2, b3⟩ := hcls id B hB
          obtain ⟨L, k1, k2, k3⟩ := hM.blk c id B b2 b3
          exact ⟨L, k1, k2.mono (fun id L h => by unfold restr at h; split at h; exact h; cases h), k3⟩
        · obtain ⟨c, _, b2, b3⟩ := hcls id B a1
          obtain ⟨c', _, b2', b3'⟩ := hcls id' B' a2
          exact hM.excl c c' id id' B B' L L' b2 b2' b3 b3' hne hl hl'
      · obtain ⟨o, ho, ht⟩ := hB.op
        have hks : k < ops.size := (Array.getElem?_eq_some_iff.1 ho).1
        have e : (T ops.size).m = (T (k + 1)).m := same_mem hstep (show k + 1 ≤ ops.size by omega) (Nat.le_refl _) fun j o' j1 j2 j3 => by
          cases ht' : touch o'.op with
          | false => rfl
          | true => have := (hB.all j o' j3 ht').1 j2; omega
        have hrep := hB.rep
        have e2 : ln T (k + 1) = ln T ops.size := by unfold ln; rw [e]
        rw [e2, hres] at hrep
        rw [e]
        exact hrep
  · exact Nat.le_trans List.countP_le_length (by simp)
  · have hno : ∀ i, ¬ (Array.replicate ops.size false).getD i false = true := fun i h => by
      simp [Array.getD] at h
    have hdom0 : restr μ (ln T 0) = μ := by
      funext id
      unfold restr
      split
      · rfl
      · exact (hr.dom id (by omega)).symm
    refine ⟨fun i h => (hno i h).elim, fun i o h => (hno i h).elim, hr.nt, rfl, fun i o t h => (hno i h).elim, fun t x _ hx => ?_, fun id h => ?_, Ext.refl _ _, .inl ⟨fun k o h => (hno k h).elim, ?_⟩⟩
    · rw [h1] at hx
      rw [hdom0, ← hr.nt]
      exact hr.slots t x hx
    · left
      rcases Nat.lt_or_ge id (ln T 0) with h' | h'
      · exact h'
      · exact absurd (hr.dom id (by omega)) h
    · have hm := hr.mem.drew
      have hcl : ∀ c id, Cls W T (fun i => (Array.replicate ops.size false).getD i false = true) c id → c = 0 := fun c id h => by
        rcases h with h | ⟨j, _, h, _⟩
        · exact h.1
        · exact (hno j h).elim
      refine ⟨⟨hm.os, hm.tape, hm.output, hm.size, hm.frame, hm.up⟩, fun c id B hc hB => ?_, fun c c' id id' B B' L L' hc hc' hB hB' => ?_⟩
      · have := hcl c id hc
        subst this
        rw [h2] at hB
        rw [hdom0]
        exact hm.blk id B hB
      · have e1 := hcl c id hc
        have e2 := hcl c' id' hc'
        subst e1 e2
        rw [h2] at hB hB'
        exact hm.excl id id' B B' L L' hB hB'
end Go.Proofs.YtdenooeaiicheaaGreat.Av.Own
/- Walking in numbers of one's own: the steps of regions whose operations write blocks of their own. -/
namespace Go.Proofs.YtdenooeaiicheaaGreat.Av.Own
open Go
theorem extO_same {Wi : List Nat} (h : Wi = []) : ∀ (k : Nat) (v m : Mem), v.length = m.length → ExtO Wi k v v m m
  | _, [], [], _ => .nil rfl
  | k, x :: v, y :: m, hl => .keep (by rw [h]; rfl) (extO_same h (k + 1) v m (by simpa using hl))
/-! ### in a region that draws its order -/
section
variable {P : Program} {ops : Array Oper} {M : List Nat} {W : List (List Nat)} {kb base i : Nat} {l : List Oper} {σ : Slots} {m m' : Mem} {cr : List Nat} {K : Slots → Mem → Prop} {d : Option Tmp} {t : TypeId} {pp : String} {af : Array Edge}
theorem runo_nil (h : K σ m) : RunO P ops M kb base W K i [] σ m cr := .nil (Sub.refl σ) h
theorem RunO.weaken {σ σ' : Slots} (h : RunO P ops M kb base W K i l σ m cr) (hs : Sub σ σ') : RunO P ops M kb base W K i l σ' m cr := by
  cases h with
  | nil h1 h2 => exact .nil (h1.trans hs) h2
  | no h1 h2 h3 => exact .no (h1.trans hs) h2 h3
  | pure h1 h2 h3 h4 h5 => exact .pure (h1.trans hs) h2 h3 h4 h5
  | mem h1 h2 h3 h4 h5 h6 h7 => exact .mem (h1.trans hs) h2 h3 h4 h5 h6 h7
  | bar h1 h2 h3 h4 h5 h6 h7 => exact .bar (h1.trans hs) h2 h3 h4 h5 h6 h7
theorem runo_guard {op : Op} {j : Nat} {b c : Bool} {dj : Tmp} (h1 : (ops[j]?).bind (·.dst) = some dj) (h2 : look σ dj = some (.bool c))
    (ht : c = b → RunO P ops M kb base W K i (⟨d, op, t, pp, af, none⟩ :: l) ((dj, .bool b) :: σ) m cr) (hf : c = !b → RunO P ops M kb base W K (i + 1) l (put ((dj, .bool (!b)) :: σ) d undef) m cr) : RunO P ops M kb base W K i (⟨d, op, t, pp, af, some (j, b)⟩ :: l) σ m cr := by
  by_cases hcb : c = b
  · have h := ht hcb
    subst hcb
    have hsub : ∀ {σ1}, Sub σ1 ((dj, .bool c) :: σ) → Sub σ1 ((dj, .bool c) :: σ1) := fun {σ1} hs t v h => by
      have := hs t v h
      simp only [look] at this ⊢
      cases hb : Nat.beq dj t with
      | false => exact h
      | true => rw [hb] at this; exact this
    cases h with
    | no hs hw => cases hw
    | pure hs hw h3 hop hr => exact .pure ((hs.cons dj _).trans ((look_same look_head).trans (look_same h2))) ⟨dj, .bool c, h1, look_head, .inl ⟨c, rfl, by simp⟩⟩ h3 ⟨(hop.sub (hsub hs)).ok⟩ (hr.weaken ((hsub hs).put _ _))
    | mem hs hw h3 h4 hop hx hr => exact .mem ((hs.cons dj _).trans ((look_same look_head).trans (look_same h2))) ⟨dj, .bool c, h1, look_head, .inl ⟨c, rfl, by simp⟩⟩ h3 h4 ⟨(hop.sub (hsub hs)).ok⟩ hx (hr.weaken ((hsub hs).put _ _))
    | bar hs hw h3 h4 hop hx hr => exact .bar ((hs.cons dj _).trans ((look_same look_head).trans (look_same h2))) ⟨dj, .bool c, h1, look_head, .inl ⟨c, rfl, by simp⟩⟩ h3 h4 ⟨(hop.sub (hsub hs)).ok⟩ hx (hr.weaken ((hsub hs).put _ _))
  · have hcb : c = !b := by cases c <;> cases b <;> simp_all
    refine .no (look_same h2) ⟨dj, .bool c, h1, look_head, .inl ⟨c, rfl, by subst hcb; cases b <;> rfl⟩⟩ ?_
    rw [hcb]
    exact hf hcb
theorem look_known {dj : Tmp} {b : Bool} (h2 : look σ dj = some (.bool b)) : Sub σ ((dj, .bool b) :: σ) := fun t v hv => by
  simp only [look]
  cases hb : Nat.beq dj t with
  | false => exact hv
  | true => rw [← Nat.eq_of_beq_eq_true hb] at hv; rw [h2] at hv; exact hv
theorem runo_undef {op : Op} {j : Nat} {b : Bool} {dj : Tmp} (h1 : (ops[j]?).bind (·.dst) = some dj) (h2 : look σ dj = some undef)
    (k : RunO P ops M kb base W K (i + 1) l (put σ d undef) m cr) : RunO P ops M kb base W K i (⟨d, op, t, pp, af, some (j, b)⟩ :: l) σ m cr :=
  .no (Sub.refl σ) ⟨dj, undef, h1, h2, .inr ⟨rfl, rfl⟩⟩ k
theorem runo_want {op : Op} {j : Nat} {b : Bool} {dj : Tmp} (h1 : (ops[j]?).bind (·.dst) = some dj) (h2 : look σ dj = some (.bool b))
    (h : RunO P ops M kb base W K i (⟨d, op, t, pp, af, none⟩ :: l) σ m cr) : RunO P ops M kb base W K i (⟨d, op, t, pp, af, some (j, b)⟩ :: l) σ m cr :=
  runo_guard h1 h2 (fun _ => h.weaken (look_known h2)) fun e => absurd e (by cases b <;> simp)
theorem runo_unwant {op : Op} {j : Nat} {b : Bool} {dj : Tmp} (h1 : (ops[j]?).bind (·.dst) = some dj) (h2 : look σ dj = some (.bool (!b)))
    (h : RunO P ops M kb base W K (i + 1) l (put σ d undef) m cr) : RunO P ops M kb base W K i (⟨d, op, t, pp, af, some (j, b)⟩ :: l) σ m cr :=
  runo_guard h1 h2 (fun e => absurd e (by cases b <;> simp)) fun _ => h.weaken (Sub.put (look_known h2) _ _)
theorem runo_guard1 {op : Op} {j : Nat} {dj : Tmp} {p : Prop} [Decidable p] (h1 : (ops[j]?).bind (·.dst) = some dj) (h2 : look σ dj = some (.bool (decide p)))
    (ht : p → RunO P ops M kb base W K i (⟨d, op, t, pp, af, none⟩ :: l) ((dj, .bool true) :: σ) m cr) (hf : ¬ p → RunO P ops M kb base W K (i + 1) l (put ((dj, .bool false) :: σ) d undef) m cr) : RunO P ops M kb base W K i (⟨d, op, t, pp, af, some (j, true)⟩ :: l) σ m cr :=
  runo_guard h1 h2 (fun e => ht (of_decide_eq_true e)) fun e => hf (of_decide_eq_false e)
theorem runo_guard0 {op : Op} {j : Nat} {dj : Tmp} {p : Prop} [Decidable p] (h1 : (ops[j]?).bind (·.dst) = some dj) (h2 : look σ dj = some (.bool (decide p)))
    (ht : ¬ p → RunO P ops M kb base W K i (⟨d, op, t, pp, af, none⟩ :: l) ((dj, .bool false) :: σ) m cr) (hf : p → RunO P ops M kb base W K (i + 1) l (put ((dj, .bool true) :: σ) d undef) m cr) : RunO P ops M kb base W K i (⟨d, op, t, pp, af, some (j, false)⟩ :: l) σ m cr :=
  runo_guard h1 h2 (fun e => ht (of_decide_eq_false e)) fun e => hf (of_decide_eq_true e)
theorem so {op : Op} {v : Value} (k : RunO P ops M kb base W K (i + 1) l (put σ d v) m cr) (ht : touch op = false := by rfl)
    (h : OpOK P ⟨d, op, t, pp, af, none⟩ (ev σ) (holes m) v (holes m) := by first
      | (apply ok_move; rfl)
      | (apply ok_assign; rfl)
      | (apply ok_fieldAddr; rfl; rfl; infer_instance; rfl)
      | (apply ok_pick1; rfl; rfl)
      | (apply ok_pick0; rfl; rfl)
      | (apply ok_extract; rfl; rfl)
      | (apply ok_add64; rfl; rfl; omega)
      | (apply ok_sub64; rfl; rfl; omega)
      | (apply ok_mul64; rfl; rfl; omega)
      | (apply ok_lss; rfl; rfl)
      | (apply ok_leq; rfl; rfl)
      | (apply ok_gtr; rfl; rfl)
      | (apply ok_geq; rfl; rfl)
      | (apply ok_eql; rfl; rfl)
      | (apply ok_neq; rfl; rfl)
      | (apply ok_not_dec; rfl)
      | (apply ok_not; rfl)
      | (apply ok_str_eql; rfl; rfl)
      | (apply ok_str_neq; rfl; rfl)
      | (apply ok_len_str; rfl)
      | (apply ok_len_slice; rfl)
      | (apply ok_nilCheck; rfl)
      | (apply ok_nilCheck_func; rfl)
      | (apply ok_min; rfl; rfl)
      | (apply ok_max; rfl; rfl)
      | (apply ok_indexAddr_slice; rfl; rfl; omega)
      | (apply ok_indexAddr_array; rfl; rfl; omega)
      | (apply ok_str_index; rfl; rfl; omega)
      | (apply ok_conv_in; rfl; simp [IntKind.min, IntKind.signed, IntKind.bits] <;> omega; simp [IntKind.max, IntKind.signed, IntKind.bits] <;> omega)
      | (apply ok_quo64; rfl; rfl; omega)
      | (apply ok_rem_pos; rfl; rfl; omega)
      | (apply ok_and; rfl; rfl)
      | (apply ok_or; rfl; rfl)
      | (apply ok_xor; rfl; rfl)
      | (apply ok_andNot; rfl; rfl)
      | (apply ok_shl; rfl; rfl; omega)
      | (apply ok_shr; rfl; rfl; omega)
      | (apply ok_neg; rfl)
      | (apply ok_compl; rfl)
      | (apply ok_build; rfl; (focus ((repeat (first | apply BuildR.nil | (apply BuildR.cons; rfl; rfl; (focus first | ((repeat constructor); first | done | fail) | exact ListR.refl _); rfl; (focus ((repeat constructor); first | done | fail))))); first | done | fail)))
      | (apply ok_build_array; rfl; (focus ((repeat (first | apply BuildR.nil | (apply BuildR.cons; rfl; rfl; (focus first | ((repeat constructor); first | done | fail) | exact ListR.refl _); rfl; (focus ((repeat constructor); first | done | fail))))); first | done | fail)))
      | (apply ok_field; rfl; rfl; (first | exact PartR.one Ty.eq rfl (by ((repeat constructor); first | done | fail)) | exact PartR.agg Ty.eq rfl inferInstance (by ((repeat constructor); first | done | fail))))
      | (apply ok_index; rfl; rfl; omega; (first | exact PartR.one Ty.eq rfl (by ((repeat constructor); first | done | fail)) | exact PartR.agg Ty.eq rfl inferInstance (by ((repeat constructor); first | done | fail))))
      | (apply ok_bool_eql; rfl; rfl)
      | (apply ok_bool_neq; rfl; rfl)
      | (apply ok_agg_eql; rfl; rfl; (focus ((repeat (first | apply EqFs.nil | (apply EqFs.cons; (first | exact PartR.one Ty.eq rfl (by ((repeat constructor); first | done | fail)) | exact PartR.agg Ty.eq rfl inferInstance (by ((repeat constructor); first | done | fail))); (first | exact PartR.one Ty.eq rfl (by ((repeat constructor); first | done | fail)) | exact PartR.agg Ty.eq rfl inferInstance (by ((repeat constructor); first | done | fail))); (first | exact Or.inl (Eq0.int Ty.eq) | exact Or.inl (Eq0.bool Ty.eq) | exact Or.inl (Eq0.string Ty.eq))))); first | done | fail)))
      | (apply ok_agg_neq; rfl; rfl; (focus ((repeat (first | apply EqFs.nil | (apply EqFs.cons; (first | exact PartR.one Ty.eq rfl (by ((repeat constructor); first | done | fail)) | exact PartR.agg Ty.eq rfl inferInstance (by ((repeat constructor); first | done | fail))); (first | exact PartR.one Ty.eq rfl (by ((repeat constructor); first | done | fail)) | exact PartR.agg Ty.eq rfl inferInstance (by ((repeat constructor); first | done | fail))); (first | exact Or.inl (Eq0.int Ty.eq) | exact Or.inl (Eq0.bool Ty.eq) | exact Or.inl (Eq0.string Ty.eq))))); first | done | fail)))
      | (apply ok_ptr_eql; rfl; rfl)
      | (apply ok_ptr_neq; rfl; rfl)
      | (apply ok_slice_str; rfl; (focus first | exact BndR.none | (apply BndR.some; rfl; omega; first | done | fail)); (focus first | exact BndR.none | (apply BndR.some; rfl; omega; first | done | fail)); omega)
      | (apply ok_slice_slice; rfl; rfl; rfl; (focus first | exact BndR.none | (apply BndR.some; rfl; omega; first | done | fail)); (focus first | exact BndR.none | (apply BndR.some; rfl; omega; first | done | fail)); omega)
      | (apply ok_slice_nil; rfl; (focus first | exact BndR.none | (apply BndR.some; rfl; omega; first | done | fail)); (focus first | exact BndR.none | (apply BndR.some; rfl; omega; first | done | fail)))
      | (apply ok_slice_array; rfl; rfl; rfl; rfl; rfl; (first | exact Nat.le_of_ble_eq_true rfl | omega | (simp; first | done | fail) | (simp; omega)); (focus first | exact BndR.none | (apply BndR.some; rfl; omega; first | done | fail)); (focus first | exact BndR.none | (apply BndR.some; rfl; omega; first | done | fail)); omega; rfl)
      | (apply ok_add; rfl; rfl)
      | (apply ok_sub; rfl; rfl)
      | (apply ok_mul; rfl; rfl)
      | (apply ok_conv; rfl)
      | (apply ok_conv_str; rfl; rfl)
      | (apply ok_pick; rfl; rfl; rfl)) : RunO P ops M kb base W K i (⟨d, op, t, pp, af, none⟩ :: l) σ m cr := .pure (Sub.refl σ) rfl ht h k
theorem sol {op : Op} {v : Value} (k : RunO P ops M kb base W K (i + 1) l (put σ d v) m cr) (ht : touch op = true := by rfl) (hi : Nat.blt i kb = true := by rfl)
    (h : OpOK P ⟨d, op, t, pp, af, none⟩ (ev σ) (visO base cr W i (fun j => (M.getD i 0).testBit j) m) v (visO base cr W i (fun j => (M.getD i 0).testBit j) m) := by first
      | (apply ok_load; rfl; rfl; rfl; (focus ((repeat constructor); first | done | fail)); rfl)
      | (apply ok_load_ints; rfl; rfl; rfl; ((try simp only [Nat.zero_add, Nat.mul_one]); rfl); (first | omega | (simp only [List.length_cons, List.length_nil, List.length_map, List.length_set, List.length_append]; omega) | (simp; omega)); rfl)
      | (apply ok_load_u8; rfl; rfl; rfl; ((try simp only [Nat.zero_add, Nat.mul_one]); rfl); (first | omega | (simp only [List.length_cons, List.length_nil, List.length_map, List.length_set, List.length_append]; omega) | (simp; omega)); rfl)
      | (apply ok_loadN; rfl; rfl; rfl; (focus ((repeat constructor); first | done | fail)); rfl)
      | (apply ok_bytes_str; rfl; rfl; (first | exact Nat.le_of_ble_eq_true rfl | omega | (simp; first | done | fail) | (simp; omega)); (first | exact TakeR.eq (by ((repeat constructor); first | done | fail)) | (apply take_full; first | rfl | (simp; first | done | fail) | (simp; omega)) | rfl); rfl)
      | (apply ok_nil_str; rfl)
      | (apply ok_append_none; rfl; rfl; (focus first | (apply Src.slc; rfl; exact Ty.eq; rfl; (first | exact Nat.le_of_ble_eq_true rfl | omega | (simp; first | done | fail) | (simp; omega)); (first | exact TakeR.eq (by ((repeat constructor); first | done | fail)) | (apply take_full; first | rfl | (simp; first | done | fail) | (simp; omega)) | rfl); (first | rfl | (simp; first | done | fail)); rfl; first | done | fail) | (apply Src.str; rfl; exact Ty.eq; rfl; rfl; first | done | fail) | (apply Src.nil; rfl; exact Ty.eq; first | done | fail)))
      | (apply ok_conv_in; rfl; simp [IntKind.min, IntKind.signed, IntKind.bits] <;> omega; simp [IntKind.max, IntKind.signed, IntKind.bits] <;> omega)
      | (apply ok_slice_str; rfl; (focus first | exact BndR.none | (apply BndR.some; rfl; omega; first | done | fail)); (focus first | exact BndR.none | (apply BndR.some; rfl; omega; first | done | fail)); omega)
      | (apply ok_slice_slice; rfl; rfl; rfl; (focus first | exact BndR.none | (apply BndR.some; rfl; omega; first | done | fail)); (focus first | exact BndR.none | (apply BndR.some; rfl; omega; first | done | fail)); omega)
      | (apply ok_slice_nil; rfl; (focus first | exact BndR.none | (apply BndR.some; rfl; omega; first | done | fail)); (focus first | exact BndR.none | (apply BndR.some; rfl; omega; first | done | fail)))
      | (apply ok_slice_array; rfl; rfl; rfl; rfl; rfl; (first | exact Nat.le_of_ble_eq_true rfl | omega | (simp; first | done | fail) | (simp; omega)); (focus first | exact BndR.none | (apply BndR.some; rfl; omega; first | done | fail)); (focus first | exact BndR.none | (apply BndR.some; rfl; omega; first | done | fail)); omega; rfl)
      | (apply ok_conv; rfl)
      | (apply ok_conv_str; rfl; rfl)) (hw : W.getD i [] = [] := by rfl) : RunO P ops M kb base W K i (⟨d, op, t, pp, af, none⟩ :: l) σ m cr :=
  .mem (m' := m) (V' := visO base cr W i (fun j => (M.getD i 0).testBit j) m) (Sub.refl σ) rfl (Nat.blt_eq.mp hi) ht h (extO_same hw 0 _ _ (visO_len _ _ _ _ _ _)) (by simpa using k)
theorem som {op : Op} {v : Value} {V' : Mem} {n : Nat} (k : RunO P ops M kb base W K (i + 1) l (put σ d v) m' (cr ++ List.replicate n i)) (ht : touch op = true := by rfl) (hi : Nat.blt i kb = true := by rfl)
    (h : OpOK P ⟨d, op, t, pp, af, none⟩ (ev σ) (visO base cr W i (fun j => (M.getD i 0).testBit j) m) v V' := by first
      | (apply ok_box; rfl; (focus first | ((repeat constructor); first | done | fail) | exact ListR.refl _); (focus ((repeat constructor); first | done | fail)))
      | (apply ok_alloc; rfl; (focus ((repeat constructor); first | done | fail)))
      | (apply ok_buildSlice; rfl; rfl; rfl; rfl; rfl; (focus ((repeat (first | apply BuildR.nil | (apply BuildR.cons; rfl; rfl; (focus first | ((repeat constructor); first | done | fail) | exact ListR.refl _); rfl; (focus ((repeat constructor); first | done | fail))))); first | done | fail)); (focus ((repeat constructor); first | done | fail)); rfl)
      | (apply ok_makeSlice; rfl; rfl; rfl; omega; (focus ((repeat constructor); first | done | fail)))
      | (apply ok_append_nil; rfl; rfl; rfl; (focus first | (apply Src.slc; rfl; exact Ty.eq; rfl; (first | exact Nat.le_of_ble_eq_true rfl | omega | (simp; first | done | fail) | (simp; omega)); (first | exact TakeR.eq (by ((repeat constructor); first | done | fail)) | (apply take_full; first | rfl | (simp; first | done | fail) | (simp; omega)) | rfl); (first | rfl | (simp; first | done | fail)); rfl; first | done | fail) | (apply Src.str; rfl; exact Ty.eq; rfl; rfl; first | done | fail) | (apply Src.nil; rfl; exact Ty.eq; first | done | fail)); omega; omega; (focus ((repeat constructor); first | done | fail)); rfl))
    (hx : ExtO (W.getD i []) 0 (visO base cr W i (fun j => (M.getD i 0).testBit j) m) V' m m' := by ((repeat (first | (apply Own.ExtO.keep; rfl) | (apply Own.ExtO.own; rfl; rfl) | (apply Own.ExtO.nil; rfl))); first | done | fail)) (hn : m'.length - m.length = n := by rfl) : RunO P ops M kb base W K i (⟨d, op, t, pp, af, none⟩ :: l) σ m cr :=
  .mem (Sub.refl σ) rfl (Nat.blt_eq.mp hi) ht h hx (by rw [hn]; exact k)
theorem sob {op : Op} {v : Value} {n : Nat} (k : RunO P ops M kb base W K (i + 1) l (put σ d v) m' (cr ++ List.replicate n i)) (ht : touch op = true := by rfl) (hi : Nat.ble kb i = true := by rfl)
    (h : OpOK P ⟨d, op, t, pp, af, none⟩ (ev σ) m v m' := by first
      | (apply ok_storeN; rfl; rfl; (focus first | ((repeat constructor); first | done | fail) | exact ListR.refl _); rfl; rfl; rfl; rfl; (focus first | ((repeat constructor); first | done | fail) | (apply splice_ints; ((try simp only [Nat.zero_add, Nat.mul_one]); rfl); (first | omega | (simp only [List.length_cons, List.length_nil, List.length_map, List.length_set, List.length_append]; omega) | (simp; omega)); first | done | fail)); (focus ((repeat constructor); first | done | fail)); rfl)
      | (apply ok_append; rfl; rfl; rfl; rfl; rfl; rfl; (focus first | (apply Src.slc; rfl; exact Ty.eq; rfl; (first | exact Nat.le_of_ble_eq_true rfl | omega | (simp; first | done | fail) | (simp; omega)); (first | exact TakeR.eq (by ((repeat constructor); first | done | fail)) | (apply take_full; first | rfl | (simp; first | done | fail) | (simp; omega)) | rfl); (first | rfl | (simp; first | done | fail)); rfl; first | done | fail) | (apply Src.str; rfl; exact Ty.eq; rfl; rfl; first | done | fail) | (apply Src.nil; rfl; exact Ty.eq; first | done | fail)); (first | exact Nat.le_of_ble_eq_true rfl | omega | (simp; first | done | fail) | (simp; omega)); (first | exact TakeR.eq (by ((repeat constructor); first | done | fail)) | (apply take_full; first | rfl | (simp; first | done | fail) | (simp; omega)) | rfl); rfl; omega; (focus ((repeat constructor); first | done | fail)); rfl)
      | (apply ok_copy; rfl; rfl; rfl; (focus first | (apply Src.slc; rfl; exact Ty.eq; rfl; (first | exact Nat.le_of_ble_eq_true rfl | omega | (simp; first | done | fail) | (simp; omega)); (first | exact TakeR.eq (by ((repeat constructor); first | done | fail)) | (apply take_full; first | rfl | (simp; first | done | fail) | (simp; omega)) | rfl); (first | rfl | (simp; first | done | fail)); rfl; first | done | fail) | (apply Src.str; rfl; exact Ty.eq; rfl; rfl; first | done | fail) | (apply Src.nil; rfl; exact Ty.eq; first | done | fail)); omega; (first | exact Nat.le_of_ble_eq_true rfl | omega | (simp; first | done | fail) | (simp; omega)); rfl; (focus ((repeat constructor); first | done | fail)); rfl)
      | (apply ok_box; rfl; (focus first | ((repeat constructor); first | done | fail) | exact ListR.refl _); (focus ((repeat constructor); first | done | fail)))
      | (apply ok_alloc; rfl; (focus ((repeat constructor); first | done | fail)))
      | (apply ok_buildSlice; rfl; rfl; rfl; rfl; rfl; (focus ((repeat (first | apply BuildR.nil | (apply BuildR.cons; rfl; rfl; (focus first | ((repeat constructor); first | done | fail) | exact ListR.refl _); rfl; (focus ((repeat constructor); first | done | fail))))); first | done | fail)); (focus ((repeat constructor); first | done | fail)); rfl)
      | (apply ok_makeSlice; rfl; rfl; rfl; omega; (focus ((repeat constructor); first | done | fail)))
      | (apply ok_append_nil; rfl; rfl; rfl; (focus first | (apply Src.slc; rfl; exact Ty.eq; rfl; (first | exact Nat.le_of_ble_eq_true rfl | omega | (simp; first | done | fail) | (simp; omega)); (first | exact TakeR.eq (by ((repeat constructor); first | done | fail)) | (apply take_full; first | rfl | (simp; first | done | fail) | (simp; omega)) | rfl); (first | rfl | (simp; first | done | fail)); rfl; first | done | fail) | (apply Src.str; rfl; exact Ty.eq; rfl; rfl; first | done | fail) | (apply Src.nil; rfl; exact Ty.eq; first | done | fail)); omega; omega; (focus ((repeat constructor); first | done | fail)); rfl)
      | (apply ok_load; rfl; rfl; rfl; (focus ((repeat constructor); first | done | fail)); rfl)
      | (apply ok_load_ints; rfl; rfl; rfl; ((try simp only [Nat.zero_add, Nat.mul_one]); rfl); (first | omega | (simp only [List.length_cons, List.length_nil, List.length_map, List.length_set, List.length_append]; omega) | (simp; omega)); rfl)
      | (apply ok_load_u8; rfl; rfl; rfl; ((try simp only [Nat.zero_add, Nat.mul_one]); rfl); (first | omega | (simp only [List.length_cons, List.length_nil, List.length_map, List.length_set, List.length_append]; omega) | (simp; omega)); rfl)
      | (apply ok_loadN; rfl; rfl; rfl; (focus ((repeat constructor); first | done | fail)); rfl)
      | (apply ok_bytes_str; rfl; rfl; (first | exact Nat.le_of_ble_eq_true rfl | omega | (simp; first | done | fail) | (simp; omega)); (first | exact TakeR.eq (by ((repeat constructor); first | done | fail)) | (apply take_full; first | rfl | (simp; first | done | fail) | (simp; omega)) | rfl); rfl)
      | (apply ok_nil_str; rfl)
      | (apply ok_append_none; rfl; rfl; (focus first | (apply Src.slc; rfl; exact Ty.eq; rfl; (first | exact Nat.le_of_ble_eq_true rfl | omega | (simp; first | done | fail) | (simp; omega)); (first | exact TakeR.eq (by ((repeat constructor); first | done | fail)) | (apply take_full; first | rfl | (simp; first | done | fail) | (simp; omega)) | rfl); (first | rfl | (simp; first | done | fail)); rfl; first | done | fail) | (apply Src.str; rfl; exact Ty.eq; rfl; rfl; first | done | fail) | (apply Src.nil; rfl; exact Ty.eq; first | done | fail))))
    (hl : m.length ≤ m'.length := by exact Nat.le_of_ble_eq_true rfl) (hn : m'.length - m.length = n := by rfl) : RunO P ops M kb base W K i (⟨d, op, t, pp, af, none⟩ :: l) σ m cr :=
  .bar (Sub.refl σ) rfl (Nat.le_of_ble_eq_true hi) ht h hl (by rw [hn]; exact k)
theorem sow {op : Op} {v : Value} {V' : Mem} {n : Nat} (k : RunO P ops M kb base W K (i + 1) l (put σ d v) m' (cr ++ List.replicate n i)) (ht : touch op = true := by rfl) (hi : Nat.blt i kb = true := by rfl)
    (h : OpOK P ⟨d, op, t, pp, af, none⟩ (ev σ) (visO base cr W i (fun j => (M.getD i 0).testBit j) m) v V' := by first
      | (apply ok_storeN; rfl; rfl; (focus first | ((repeat constructor); first | done | fail) | exact ListR.refl _); rfl; rfl; rfl; rfl; (focus first | ((repeat constructor); first | done | fail) | (apply splice_ints; ((try simp only [Nat.zero_add, Nat.mul_one]); rfl); (first | omega | (simp only [List.length_cons, List.length_nil, List.length_map, List.length_set, List.length_append]; omega) | (simp; omega)); first | done | fail)); (focus ((repeat constructor); first | done | fail)); rfl)
      | (apply ok_append; rfl; rfl; rfl; rfl; rfl; rfl; (focus first | (apply Src.slc; rfl; exact Ty.eq; rfl; (first | exact Nat.le_of_ble_eq_true rfl | omega | (simp; first | done | fail) | (simp; omega)); (first | exact TakeR.eq (by ((repeat constructor); first | done | fail)) | (apply take_full; first | rfl | (simp; first | done | fail) | (simp; omega)) | rfl); (first | rfl | (simp; first | done | fail)); rfl; first | done | fail) | (apply Src.str; rfl; exact Ty.eq; rfl; rfl; first | done | fail) | (apply Src.nil; rfl; exact Ty.eq; first | done | fail)); (first | exact Nat.le_of_ble_eq_true rfl | omega | (simp; first | done | fail) | (simp; omega)); (first | exact TakeR.eq (by ((repeat constructor); first | done | fail)) | (apply take_full; first | rfl | (simp; first | done | fail) | (simp; omega)) | rfl); rfl; omega; (focus ((repeat constructor); first | done | fail)); rfl)
      | (apply ok_copy; rfl; rfl; rfl; (focus first | (apply Src.slc; rfl; exact Ty.eq; rfl; (first | exact Nat.le_of_ble_eq_true rfl | omega | (simp; first | done | fail) | (simp; omega)); (first | exact TakeR.eq (by ((repeat constructor); first | done | fail)) | (apply take_full; first | rfl | (simp; first | done | fail) | (simp; omega)) | rfl); (first | rfl | (simp; first | done | fail)); rfl; first | done | fail) | (apply Src.str; rfl; exact Ty.eq; rfl; rfl; first | done | fail) | (apply Src.nil; rfl; exact Ty.eq; first | done | fail)); omega; (first | exact Nat.le_of_ble_eq_true rfl | omega | (simp; first | done | fail) | (simp; omega)); rfl; (focus ((repeat constructor); first | done | fail)); rfl)
      | (apply ok_box; rfl; (focus first | ((repeat constructor); first | done | fail) | exact ListR.refl _); (focus ((repeat constructor); first | done | fail)))
      | (apply ok_alloc; rfl; (focus ((repeat constructor); first | done | fail)))
      | (apply ok_buildSlice; rfl; rfl; rfl; rfl; rfl; (focus ((repeat (first | apply BuildR.nil | (apply BuildR.cons; rfl; rfl; (focus first | ((repeat constructor); first | done | fail) | exact ListR.refl _); rfl; (focus ((repeat constructor); first | done | fail))))); first | done | fail)); (focus ((repeat constructor); first | done | fail)); rfl)
      | (apply ok_makeSlice; rfl; rfl; rfl; omega; (focus ((repeat constructor); first | done | fail)))
      | (apply ok_append_nil; rfl; rfl; rfl; (focus first | (apply Src.slc; rfl; exact Ty.eq; rfl; (first | exact Nat.le_of_ble_eq_true rfl | omega | (simp; first | done | fail) | (simp; omega)); (first | exact TakeR.eq (by ((repeat constructor); first | done | fail)) | (apply take_full; first | rfl | (simp; first | done | fail) | (simp; omega)) | rfl); (first | rfl | (simp; first | done | fail)); rfl; first | done | fail) | (apply Src.str; rfl; exact Ty.eq; rfl; rfl; first | done | fail) | (apply Src.nil; rfl; exact Ty.eq; first | done | fail)); omega; omega; (focus ((repeat constructor); first | done | fail)); rfl)
      | (apply ok_load; rfl; rfl; rfl; (focus ((repeat constructor); first | done | fail)); rfl)
      | (apply ok_load_ints; rfl; rfl; rfl; ((try simp only [Nat.zero_add, Nat.mul_one]); rfl); (first | omega | (simp only [List.length_cons, List.length_nil, List.length_map, List.length_set, List.length_append]; omega) | (simp; omega)); rfl)
      | (apply ok_load_u8; rfl; rfl; rfl; ((try simp only [Nat.zero_add, Nat.mul_one]); rfl); (first | omega | (simp only [List.length_cons, List.length_nil, List.length_map, List.length_set, List.length_append]; omega) | (simp; omega)); rfl)
      | (apply ok_loadN; rfl; rfl; rfl; (focus ((repeat constructor); first | done | fail)); rfl)
      | (apply ok_bytes_str; rfl; rfl; (first | exact Nat.le_of_ble_eq_true rfl | omega | (simp; first | done | fail) | (simp; omega)); (first | exact TakeR.eq (by ((repeat constructor); first | done | fail)) | (apply take_full; first | rfl | (simp; first | done | fail) | (simp; omega)) | rfl); rfl)
      | (apply ok_nil_str; rfl)
      | (apply ok_append_none; rfl; rfl; (focus first | (apply Src.slc; rfl; exact Ty.eq; rfl; (first | exact Nat.le_of_ble_eq_true rfl | omega | (simp; first | done | fail) | (simp; omega)); (first | exact TakeR.eq (by ((repeat constructor); first | done | fail)) | (apply take_full; first | rfl | (simp; first | done | fail) | (simp; omega)) | rfl); (first | rfl | (simp; first | done | fail)); rfl; first | done | fail) | (apply Src.str; rfl; exact Ty.eq; rfl; rfl; first | done | fail) | (apply Src.nil; rfl; exact Ty.eq; first | done | fail))))
    (hx : ExtO (W.getD i []) 0 (visO base cr W i (fun j => (M.getD i 0).testBit j) m) V' m m' := by ((repeat (first | (apply Own.ExtO.keep; rfl) | (apply Own.ExtO.own; rfl; rfl) | (apply Own.ExtO.nil; rfl))); first | done | fail)) (hn : m'.length - m.length = n := by rfl) : RunO P ops M kb base W K i (⟨d, op, t, pp, af, none⟩ :: l) σ m cr :=
  .mem (Sub.refl σ) rfl (Nat.blt_eq.mp hi) ht h hx (by rw [hn]; exact k)
theorem soMW {V' : Mem} {n : Nat} {fx : Operand} {xs : Array Operand} {at_ : Array TypeId} {f : FuncId} [FnI P f] {a1 a2 : Array Value} {vs args : List Value} {r r' : Value} {mc mc' : Mem} (gl : List Nat) (hc : ACalls P f args mc r mc') (k : RunO P ops M kb base W K (i + 1) l (put σ d r') m' (cr ++ List.replicate n i)) (hi : Nat.blt i kb = true := by rfl)
    (hf : ev σ fx = some (.func (.func f) a1 a2) := by rfl) (hxs : ArgsR (ev σ) xs.toList vs := by ((repeat (apply ArgsR.cons; rfl)); exact ArgsR.nil))
    (hargs : WkL (a1.toList ++ vs ++ a2.toList) (renL (gOf gl ((visO base cr W i (fun j => (M.getD i 0).testBit j) m).length - mc.length)) args) := by (first | exact WkL.refl _ | exact WkL.ofEq (renL_map (fun _ => rfl) _).symm | exact WkL.ofEq (renL_flat _).symm | (focus ((repeat (first | exact WkL.nil | (apply WkL.cons; (first | exact Wk.refl _ | exact Wk.nil | (apply Wk.aggL; (repeat (first | exact WkL.nil | (apply WkL.cons; (first | exact Wk.refl _ | exact Wk.nil)))); first | done | fail))))); first | done | fail))))
    (hsub : SubM (gOf gl ((visO base cr W i (fun j => (M.getD i 0).testBit j) m).length - mc.length)) (visO base cr W i (fun j => (M.getD i 0).testBit j) m) gl mc := by ((repeat (first | exact SubM.nil | (apply SubM.rw; rfl; (first | exact WkL.refl _ | exact WkL.ofEq (renL_map (fun _ => rfl) _).symm | exact WkL.ofEq (renL_flat _).symm | (refine WkL.ofEq (subl_id ?_); constructor; first | done | fail) | (focus ((repeat (first | exact WkL.nil | (apply WkL.cons; (first | exact Wk.refl _ | exact Wk.nil | (apply Wk.aggL; (repeat (first | exact WkL.nil | (apply WkL.cons; (first | exact Wk.refl _ | exact Wk.nil)))); first | done | fail))))); first | done | fail)))) | (apply SubM.ro; rfl; (first | exact WkL.refl _ | exact WkL.ofEq (renL_map (fun _ => rfl) _).symm | exact WkL.ofEq (renL_flat _).symm | (refine WkL.ofEq (subl_id ?_); constructor; first | done | fail) | (focus ((repeat (first | exact WkL.nil | (apply WkL.cons; (first | exact Wk.refl _ | exact Wk.nil | (apply Wk.aggL; (repeat (first | exact WkL.nil | (apply WkL.cons; (first | exact Wk.refl _ | exact Wk.nil)))); first | done | fail))))); first | done | fail)))) | apply SubM.hole)); first | done | fail))
    (hgl : Nat.ble mc.length (visO base cr W i (fun j => (M.getD i 0).testBit j) m).length = true := by rfl) (hnd : ndB gl mc = true := by rfl) (hin : gl.all (fun j => Nat.blt j (visO base cr W i (fun j => (M.getD i 0).testBit j) m).length) = true := by rfl) (hle : Nat.ble mc.length mc'.length = true := by rfl)
    (hr : NV (ren (gOf gl ((visO base cr W i (fun j => (M.getD i 0).testBit j) m).length - mc.length)) r) r' := by constructor) (hm : NM (backL (gOf gl ((visO base cr W i (fun j => (M.getD i 0).testBit j) m).length - mc.length)) gl mc mc' (visO base cr W i (fun j => (M.getD i 0).testBit j) m)) V' := by repeat constructor)
    (hx : ExtO (W.getD i []) 0 (visO base cr W i (fun j => (M.getD i 0).testBit j) m) V' m m' := by ((repeat (first | (apply Own.ExtO.keep; rfl) | (apply Own.ExtO.own; rfl; rfl) | (apply Own.ExtO.nil; rfl))); first | done | fail)) (hn : m'.length - m.length = n := by rfl) : RunO P ops M kb base W K i (⟨d, .call ⟨.value fx, xs, at_⟩, t, pp, af, none⟩ :: l) σ m cr := by
  have hop := ok_callM gl hc hf hxs hargs hgl hsub hnd (fun j hj => Nat.blt_eq.mp (List.all_eq_true.1 hin j hj)) hle (P := P) (d := d) (t := t) (pp := pp) (af := af) (g := none) (at_ := at_)
  rw [hr.eq, hm.eq] at hop
  exact .mem (Sub.refl σ) rfl (Nat.blt_eq.mp hi) rfl hop hx (by rw [hn]; exact k)
end
end Go.Proofs.YtdenooeaiicheaaGreat.Av.Own
/- Walking in numbers of one's own: drawn regions behind blocks that are counted. -/
namespace Go.Proofs.YtdenooeaiicheaaGreat.Av
/-- So many blocks. -/
inductive LenR : Mem → Nat → Prop
  | nil : LenR [] 0
  | cons {x m n} : LenR m n → LenR (x :: m) (n + 1)
theorem LenR.eq {m n} (h : LenR m n) : m.length = n := by
  induction h with
  | nil => rfl
  | cons _ ih => rw [List.length_cons, ih]
theorem aw_region_dC {P : Program} {nt n0 : Nat} {Q : Exit → Slots → Mem → Prop} {σ : Slots} {m : Mem} {id nb : Nat} {ops : Array Oper} (M : List Nat) (kb : Nat) (hb : LenR m nb) (hf : P.follows .mixedOrders = true) (hc : chkD ops M kb = true) (hd : dstsOK nt ops = true) (hn : Nat.ble n0 nb = true)
    (h : RunD P ops M kb nb (fun σ' m' => Q .normal σ' m') 0 ops.toList σ m []) : AW P nt n0 (.region id ops true) Q σ m := by
  have e := hb.eq
  subst e
  exact aw_region_d M kb hf hc hd (Nat.le_of_ble_eq_true hn) h
theorem aw_region_oC {P : Program} {nt n0 : Nat} {Q : Exit → Slots → Mem → Prop} {σ : Slots} {m : Mem} {id nb : Nat} {ops : Array Oper} (M : List Nat) (kb : Nat) (W : List (List Nat)) (hb : LenR m nb) (hf : P.follows .mixedOrders = true) (hc : chkD ops M kb = true) (hd : dstsOK nt ops = true) (hn : Nat.ble n0 nb = true) (hw : Own.chkW ops kb nb W = true)
    (h : Own.RunO P ops M kb nb W (fun σ' m' => Q .normal σ' m') 0 ops.toList σ m []) : AW P nt n0 (.region id ops true) Q σ m := by
  have e := hb.eq
  subst e
  exact Own.aw_region_o M kb W hf hc hd (Nat.le_of_ble_eq_true hn) hw h
end Go.Proofs.YtdenooeaiicheaaGreat.Av
