/- Walking in numbers of one's own: a region that draws its order, in which reads of one block stand in no order beside what comes alone. -/
import Derived.Test.YtjofcjogbopkjaaGreatVL
set_option linter.unusedVariables false
set_option linter.unusedSimpArgs false
namespace Go.Proofs.YtjofcjogbopkjaaGreat.Av.Lat
open Go.Proofs.YtjofcjogbopkjaaGreat.Av
open Go
/-- One block of a memory, only to be read. -/
def only (b0 : Nat) (m : Mem) : Mem := m.zipIdx.map fun (b, id) => cond (Nat.beq id b0) (b.map fun B => { B with rw := false }) none
theorem only_len (b0 : Nat) (m : Mem) : (only b0 m).length = m.length := by simp [only]
theorem only_live {b0 : Nat} {m : Mem} {id : Nat} {B : Blk} (h : live (only b0 m) id = some B) : id = b0 ∧ ∃ B', live m id = some B' ∧ B = { B' with rw := false } := by
  rw [live_some] at h
  unfold only at h
  rw [List.getElem?_map, List.getElem?_zipIdx] at h
  cases hm : m[id]? with
  | none => rw [hm] at h; simp at h
  | some x =>
    rw [hm] at h
    simp only [Option.map_some, Nat.zero_add, Option.some.injEq] at h
    cases hc : Nat.beq id b0 with
    | false => rw [hc] at h; cases h
    | true =>
      rw [hc, cond_true] at h
      cases x with
      | none => cases h
      | some B' =>
        simp only [Option.map_some, Option.some.injEq] at h
        exact ⟨Nat.eq_of_beq_eq_true hc, B', by rw [live_some, hm], h.symm⟩
/-- A value in which only the first blocks are named. -/
def belB (n : Nat) : Nat → Value → Bool
  | 0, _ => false
  | _ + 1, .bool _ => true
  | _ + 1, .int _ _ => true
  | _ + 1, .string _ => true
  | _ + 1, .pointer none => true
  | _ + 1, .pointer (some ⟨id, _, _⟩) => Nat.blt id n
  | _ + 1, .slice none _ _ => true
  | _ + 1, .slice (some ⟨id, _, _⟩) _ _ => Nat.blt id n
  | d + 1, .agg xs => xs.toList.all (belB n d)
  | _ + 1, _ => false
theorem vr_bel {μ μ' : Mu} {n : Nat} (h : ∀ q L, q < n → μ q = some L → μ' q = some L) : ∀ (d : Nat) (x y : Value), belB n d x = true → VR μ x y → VR μ' x y := by
  intro d
  induction d with
  | zero => intro x y h0; cases h0
  | succ d ih =>
    intro x y h0 hv
    cases hv with
    | bool b => exact .bool b
    | int k n => exact .int k n
    | string s => exact .string s
    | pnil => exact .pnil
    | ptr hL => exact .ptr (h _ _ (Nat.blt_eq.mp h0) hL)
    | snil => exact .snil
    | slc hL a b c d => exact .slc (h _ _ (Nat.blt_eq.mp h0) hL) a b c d
    | slcNil => exact .slcNil
    | slcLit => exact .slcLit
    | fnil => cases h0
    | inil => cases h0
    | mnil => cases h0
    | map hL => cases h0
    | func a _ c _ => cases h0
    | iface _ => cases h0
    | agg a b => exact .agg a fun i u v hu hw => ih u v (List.all_eq_true.1 h0 u (by rw [← Array.getElem?_toList] at hu; exact List.mem_of_getElem? hu)) (b i u v hu hw)
    | tuple a _ => cases h0
/-- A region's operations in the text's order, its order drawn. -/
inductive RunD (P : Program) (ops : Array Oper) (M : List Nat) (kb base : Nat) (Z : List Nat) (b0 : Nat) (K : Slots → Mem → Prop) : Nat → List Oper → Slots → Mem → List Nat → Prop
  | nil {i σ σ0 m cr} : Sub σ σ0 → K σ m → RunD P ops M kb base Z b0 K i [] σ0 m cr
  | no {i σ σ0 m cr o l} : Sub σ σ0 → Want ops σ o false → RunD P ops M kb base Z b0 K (i + 1) l (put σ o.dst undef) m cr → RunD P ops M kb base Z b0 K i (o :: l) σ0 m cr
  | pure {i σ σ0 m cr o l v} : Sub σ σ0 → Want ops σ o true → touch o.op = false → OpOK P o (ev σ) (holes m) v (holes m) → RunD P ops M kb base Z b0 K (i + 1) l (put σ o.dst v) m cr → RunD P ops M kb base Z b0 K i (o :: l) σ0 m cr
  | late {i σ σ0 m cr o l v} : Sub σ σ0 → Want ops σ o true → Z.contains i = true → touch o.op = true → OpOK P o (ev σ) (only b0 m) v (only b0 m) → RunD P ops M kb base Z b0 K (i + 1) l (put σ o.dst v) m cr → RunD P ops M kb base Z b0 K i (o :: l) σ0 m cr
  | mem {i σ σ0 m cr o l v V' m'} : Sub σ σ0 → Want ops σ o true → Z.contains i = false → i < kb → touch o.op = true → OpOK P o (ev σ) (vis base cr (fun j => (M.getD i 0).testBit j) m) v V' → ExtR (vis base cr (fun j => (M.getD i 0).testBit j) m) V' m m' →
      RunD P ops M kb base Z b0 K (i + 1) l (put σ o.dst v) m' (cr ++ List.replicate (m'.length - m.length) i) → RunD P ops M kb base Z b0 K i (o :: l) σ0 m cr
  | bar {i σ σ0 m cr o l v m'} : Sub σ σ0 → Want ops σ o true → live m' b0 = live m b0 → kb ≤ i → touch o.op = true → OpOK P o (ev σ) m v m' → m.length ≤ m'.length →
      RunD P ops M kb base Z b0 K (i + 1) l (put σ o.dst v) m' (cr ++ List.replicate (m'.length - m.length) i) → RunD P ops M kb base Z b0 K i (o :: l) σ0 m cr
/-- The static look: forerunners, slots, what writes comes alone. -/
def chkD (ops : Array Oper) (M : List Nat) (kb : Nat) (Z : List Nat) : Bool :=
  (Z.all fun z => Nat.blt z kb) && ops.toList.zipIdx.all fun (o, i) =>
    (o.after.toList.all fun e => !Region.binds .any e || Nat.blt e.on i) &&
    ((List.range i).all fun j => !(M.getD i 0).testBit j || o.after.toList.any fun e => Region.binds .any e && (Nat.beq e.on j || (Nat.blt j e.on && (M.getD e.on 0).testBit j))) &&
    (ops.toList.zipIdx.all fun (o', j) =>
      Nat.beq i j ||
      (match o'.dst with
       | none => true
       | some t => (o.dst != some t) && (!(tmpsOf ops o).contains t || (Nat.blt j i && (M.getD i 0).testBit j) || (Nat.blt i j && (M.getD j 0).testBit i)))) &&
    (Nat.blt i kb || !touch o.op || (ops.toList.zipIdx.all fun (o', j) => !Nat.blt j i || !touch o'.op || Z.contains j || (M.getD i 0).testBit j))
structure Chk (ops : Array Oper) (M : List Nat) (kb : Nat) (Z : List Nat) : Prop where
  late : ∀ z, Z.contains z = true → z < kb
  edge : ∀ (i : Nat) (o : Oper), ops[i]? = some o → ∀ e ∈ o.after.toList, Region.binds .any e = true → e.on < i
  cert : ∀ (i : Nat) (o : Oper), ops[i]? = some o → ∀ j, j < i → (M.getD i 0).testBit j = true → ∃ e ∈ o.after.toList, Region.binds .any e = true ∧ (e.on = j ∨ (j < e.on ∧ (M.getD e.on 0).testBit j = true))
  one : ∀ (i : Nat) (o : Oper) (j : Nat) (o' : Oper) (t : Tmp), ops[i]? = some o → ops[j]? = some o' → i ≠ j → o'.dst = some t → o.dst ≠ some t
  reads : ∀ (i : Nat) (o : Oper) (j : Nat) (o' : Oper) (t : Tmp), ops[i]? = some o → ops[j]? = some o' → i ≠ j → o'.dst = some t → t ∈ o.looksAt ops → (j < i ∧ (M.getD i 0).testBit j = true) ∨ (i < j ∧ (M.getD j 0).testBit i = true)
  alone : ∀ (i : Nat) (o : Oper) (j : Nat) (o' : Oper), ops[i]? = some o → ops[j]? = some o' → kb ≤ i → touch o.op = true → j < i → touch o'.op = true → Z.contains j = false → (M.getD i 0).testBit j = true
theorem chkD_spec {ops : Array Oper} {M : List Nat} {kb : Nat} {Z : List Nat} (h : chkD ops M kb Z = true) : Chk ops M kb Z := by
  obtain ⟨hz, h⟩ := Bool.and_eq_true_iff.1 h
  have get : ∀ (i : Nat) (o : Oper), ops[i]? = some o → ops.toList[i]? = some o := fun i o ho => by rw [Array.getElem?_toList]; exact ho
  have h0 := fun (i : Nat) (o : Oper) (ho : ops[i]? = some o) => zipIdx_all h (get i o ho)
  simp only [Bool.and_eq_true] at h0
  refine ⟨fun z h => Nat.blt_eq.mp (List.all_eq_true.1 hz z (by simpa using h)), fun i o ho e he hb => ?_, fun i o ho j hj ht => ?_, fun i o j o' t ho ho' hne hd => ?_, fun i o j o' t ho ho' hne hd hl => ?_, fun i o j o' ho ho' hk ht hj ht' hzj => ?_⟩
  · have := List.all_eq_true.1 (h0 i o ho).1.1.1 e he
    rw [hb] at this
    exact Nat.blt_eq.mp (by simpa using this)
  · have := List.all_eq_true.1 (h0 i o ho).1.1.2 j (List.mem_range.2 hj)
    rw [ht] at this
    simp only [Bool.not_true, Bool.false_or] at this
    obtain ⟨e, he, hb⟩ := List.any_eq_true.1 this
    simp only [Bool.and_eq_true, Bool.or_eq_true] at hb
    exact ⟨e, he, hb.1, hb.2.imp Nat.eq_of_beq_eq_true fun h => ⟨Nat.blt_eq.mp h.1, h.2⟩⟩
  · have := zipIdx_all (h0 i o ho).1.2 (get j o' ho')
    have hb : Nat.beq i j = false := by
      cases hb : Nat.beq i j with
      | false => rfl
      | true => exact absurd (Nat.eq_of_beq_eq_true hb) hne
    simp only [hb, Bool.false_or, hd, Bool.and_eq_true, bne_iff_ne] at this
    exact this.1
  · have := zipIdx_all (h0 i o ho).1.2 (get j o' ho')
    have hb : Nat.beq i j = false := by
      cases hb : Nat.beq i j with
      | false => rfl
      | true => exact absurd (Nat.eq_of_beq_eq_true hb) hne
    simp only [hb, Bool.false_or, hd, Bool.and_eq_true, Bool.or_eq_true] at this
    have hc : (tmpsOf ops o).contains t = true := by simpa [tmpsOf] using hl
    rw [hc] at this
    rcases this.2 with (h1 | h1) | h1
    · cases h1
    · exact .inl ⟨Nat.blt_eq.mp h1.1, h1.2⟩
    · exact .inr ⟨Nat.blt_eq.mp h1.1, h1.2⟩
  · have := (h0 i o ho).2
    simp only [Bool.or_eq_true] at this
    rcases this with (h1 | h1) | h1
    · have := Nat.blt_eq.mp h1; omega
    · rw [ht] at h1; cases h1
    · have := zipIdx_all h1 (get j o' ho')
      simp only [Bool.or_eq_true] at this
      rcases this with ((h2 | h2) | h2) | h2
      · have h3 : Nat.blt j i = true := Nat.blt_eq.mpr hj
        rw [h3] at h2; cases h2
      · rw [ht'] at h2; cases h2
      · rw [hzj] at h2; cases h2
      · exact h2
/-! ### what a run in the text's order gives -/
structure Step (P : Program) (ops : Array Oper) (M : List Nat) (kb base : Nat) (Z : List Nat) (b0 : Nat) (i : Nat) (o : Oper) (σ : Slots) (m : Mem) (cr : List Nat) (v : Value) (σ' : Slots) (m' : Mem) (cr' : List Nat) : Prop where
  slots : ∀ t x, look σ' t = some x → (o.dst = some t ∧ x = v) ∨ (o.dst ≠ some t ∧ look σ t = some x)
  len : m.length ≤ m'.length
  crs : cr' = cr ++ List.replicate (m'.length - m.length) i
  does : (Want ops σ o false ∧ v = undef ∧ m' = m) ∨
    (Want ops σ o true ∧ touch o.op = false ∧ m' = m ∧ OpOK P o (ev σ) (holes m) v (holes m)) ∨
    (Want ops σ o true ∧ Z.contains i = false ∧ i < kb ∧ touch o.op = true ∧ ∃ N : Mem, m' = m ++ N ∧ (N.all fun b => match b with | some B => B.rw | none => true) = true ∧ OpOK P o (ev σ) (vis base cr (fun j => (M.getD i 0).testBit j) m) v (vis base cr (fun j => (M.getD i 0).testBit j) m ++ N)) ∨
    (Want ops σ o true ∧ live m' b0 = live m b0 ∧ kb ≤ i ∧ touch o.op = true ∧ OpOK P o (ev σ) m v m') ∨
    (Want ops σ o true ∧ Z.contains i = true ∧ touch o.op = true ∧ m' = m ∧ OpOK P o (ev σ) (only b0 m) v (only b0 m))
theorem trace {P : Program} {ops : Array Oper} {M : List Nat} {kb base : Nat} {Z : List Nat} {b0 : Nat} {K : Slots → Mem → Prop} {i : Nat} {l : List Oper} {σ0 : Slots} {m : Mem} {cr : List Nat} (h : RunD P ops M kb base Z b0 K i l σ0 m cr) :
    ∃ T : Nat → Tr, (T 0).σ = σ0 ∧ (T 0).m = m ∧ (T 0).cr = cr ∧ (∀ (j : Nat) (o : Oper), l[j]? = some o → Step P ops M kb base Z b0 (i + j) o (T j).σ (T j).m (T j).cr (T j).v (T (j + 1)).σ (T (j + 1)).m (T (j + 1)).cr) ∧
      ∃ σ, Sub σ (T l.length).σ ∧ K σ (T l.length).m := by
  have cons : ∀ {i : Nat} {o : Oper} {l : List Oper} {σ0 σ' : Slots} {m m' : Mem} {cr cr' : List Nat} {v : Value}, Step P ops M kb base Z b0 i o σ0 m cr v σ' m' cr' →
      (∃ T : Nat → Tr, (T 0).σ = σ' ∧ (T 0).m = m' ∧ (T 0).cr = cr' ∧ (∀ (j : Nat) (o : Oper), l[j]? = some o → Step P ops M kb base Z b0 (i + 1 + j) o (T j).σ (T j).m (T j).cr (T j).v (T (j + 1)).σ (T (j + 1)).m (T (j + 1)).cr) ∧ ∃ σ, Sub σ (T l.length).σ ∧ K σ (T l.length).m) →
      ∃ T : Nat → Tr, (T 0).σ = σ0 ∧ (T 0).m = m ∧ (T 0).cr = cr ∧ (∀ (j : Nat) (o1 : Oper), (o :: l)[j]? = some o1 → Step P ops M kb base Z b0 (i + j) o1 (T j).σ (T j).m (T j).cr (T j).v (T (j + 1)).σ (T (j + 1)).m (T (j + 1)).cr) ∧
        ∃ σ, Sub σ (T (o :: l).length).σ ∧ K σ (T (o :: l).length).m := by
    intro i o l σ0 σ' m m' cr cr' v hs ⟨T, h1, h2, h3, h4, h5⟩
    refine ⟨fun j => match j with | 0 => ⟨σ0, m, cr, v⟩ | j + 1 => T j, rfl, rfl, rfl, fun j o1 hj => ?_, h5⟩
    cases j with
    | zero =>
      simp only [List.getElem?_cons_zero, Option.some.injEq] at hj
      subst hj
      simp only [h1, h2, h3]
      exact hs
    | succ j =>
      have := h4 j o1 (by simpa using hj)
      rw [show i + 1 + j = i + (j + 1) by omega] at this
      exact this
  induction h with
  | nil hs hk => exact ⟨fun _ => ⟨_, _, _, undef⟩, rfl, rfl, rfl, fun j o hj => by simp at hj, _, hs, hk⟩
  | no hs hw _ ih => exact cons ⟨put_slots hs _ _, Nat.le_refl _, by simp, .inl ⟨hw.sub hs, rfl, rfl⟩⟩ ih
  | pure hs hw ht hop _ ih => exact cons ⟨put_slots hs _ _, Nat.le_refl _, by simp, .inr (.inl ⟨hw.sub hs, ht, rfl, hop.sub hs⟩)⟩ ih
  | late hs hw hz ht hop _ ih => exact cons ⟨put_slots hs _ _, Nat.le_refl _, by simp, .inr (.inr (.inr (.inr ⟨hw.sub hs, hz, ht, rfl, hop.sub hs⟩)))⟩ ih
  | mem hs hw hz hi ht hop hx _ ih =>
    obtain ⟨h1, N, h2, h3, h4⟩ := hx.spec
    subst h2 h3
    exact cons ⟨put_slots hs _ _, by simp, rfl, .inr (.inr (.inl ⟨hw.sub hs, hz, hi, ht, N, rfl, h4, hop.sub hs⟩))⟩ ih
  | bar hs hw hb hi ht hop hl _ ih => exact cons ⟨put_slots hs _ _, hl, rfl, .inr (.inr (.inr (.inl ⟨hw.sub hs, hb, hi, ht, hop.sub hs⟩)))⟩ ih
/-! ### any order -/
section
variable {P : Program} {ops : Array Oper} {M : List Nat} {kb nt : Nat} {Z : List Nat} {b0 : Nat} {F : Nat → Prop} {w0 : World} {T : Nat → Tr} {μ0 : Mu} {l0 : List Deferred}
structure MemB (ops : Array Oper) (kb : Nat) (Z : List Nat) (T : Nat → Tr) (S : Nat → Prop) (F : Nat → Prop) (w0 : World) (μ : Mu) (w : World) (k : Nat) : Prop where
  op : ∃ o, ops[k]? = some o ∧ touch o.op = true
  le : kb ≤ k
  all : ∀ j o, ops[j]? = some o → touch o.op = true → Z.contains j = false → (S j ↔ j ≤ k)
  rep : RepM F w0 (restr μ (ln T (k + 1))) (T (k + 1)).m w
structure AInv (ops : Array Oper) (kb nt : Nat) (Z : List Nat) (l0 : List Deferred) (T : Nat → Tr) (S : Nat → Prop) (F : Nat → Prop) (w0 : World) (μ0 : Mu) (a : Act) (w : World) (μ : Mu) : Prop where
  lt : ∀ i, S i → i < ops.size
  closed : ∀ i o, S i → ops[i]? = some o → ∀ e ∈ o.after.toList, Region.binds .any e = true → S e.on
  size : a.tmps.size = nt
  defers : a.defers = l0
  s1 : ∀ i o t, S i → ops[i]? = some o → o.dst = some t → VR (restr μ (ln T (i + 1))) (T i).v (a.tmps.getD t undef)
  s0 : ∀ t x, (∀ i o, S i → ops[i]? = some o → o.dst ≠ some t) → look (T 0).σ t = some x → t < nt ∧ VR (restr μ (ln T 0)) x (a.tmps.getD t undef)
  dom : ∀ id, μ id ≠ none → id < ln T 0 ∨ ∃ j, S j ∧ ln T j ≤ id ∧ id < ln T (j + 1)
  ext : Ext (ln T 0) μ0 μ
  mem : ((∀ k o, S k → ops[k]? = some o → touch o.op = true → k < kb) ∧ MemA T S F w0 μ w) ∨ ∃ k, MemB ops kb Z T S F w0 μ w k
variable (hstep : ∀ (j : Nat) (o : Oper), ops[j]? = some o → Step P ops M kb (ln T 0) Z b0 j o (T j).σ (T j).m (T j).cr (T j).v (T (j + 1)).σ (T (j + 1)).m (T (j + 1)).cr)
include hstep
theorem ln_mono {i j : Nat} (h : i ≤ j) (hj : j ≤ ops.size) : ln T i ≤ ln T j := by
  induction j with
  | zero => rw [Nat.le_zero.1 h]; exact Nat.le_refl _
  | succ j ih =>
    rcases Nat.lt_or_ge i (j + 1) with hi | hi
    · exact Nat.le_trans (ih (by omega) (by omega)) (hstep j ops[j] (Array.getElem?_eq_getElem (by omega))).len
    · rw [show i = j + 1 by omega]; exact Nat.le_refl _
theorem hist {i : Nat} (hi : i ≤ ops.size) : ∀ t x, look (T i).σ t = some x → (∃ j o, j < i ∧ ops[j]? = some o ∧ o.dst = some t ∧ x = (T j).v) ∨ ((∀ j o, j < i → ops[j]? = some o → o.dst ≠ some t) ∧ look (T 0).σ t = some x) := by
  induction i with
  | zero => exact fun t x h => .inr ⟨fun j o hj => by omega, h⟩
  | succ i ih =>
    intro t x h
    have ho : ops[i]? = some ops[i] := Array.getElem?_eq_getElem (by omega)
    rcases (hstep i _ ho).slots t x h with ⟨h1, h2⟩ | ⟨h1, h2⟩
    · exact .inl ⟨i, _, by omega, ho, h1, h2⟩
    · rcases ih (by omega) t x h2 with ⟨j, o, k1, k2⟩ | ⟨k1, k2⟩
      · exact .inl ⟨j, o, by omega, k2⟩
      · refine .inr ⟨fun j o hj hjo => ?_, k2⟩
        rcases Nat.lt_or_ge j i with hji | hji
        · exact k1 j o hji hjo
        · obtain rfl : j = i := by omega
          rw [ho] at hjo; cases hjo
          exact h1
theorem made {i : Nat} (hi : i ≤ ops.size) (h0 : (T 0).cr = []) : (T i).cr.length = ln T i - ln T 0 ∧ ∀ id, ln T 0 ≤ id → id < ln T i → ∃ j, j < i ∧ (T i).cr.getD (id - ln T 0) 0 = j ∧ ln T j ≤ id ∧ id < ln T (j + 1) := by
  induction i with
  | zero => exact ⟨by simp [h0], fun id h1 h2 => by omega⟩
  | succ i ih =>
    obtain ⟨k1, k2⟩ := ih (by omega)
    have ho : ops[i]? = some ops[i] := Array.getElem?_eq_getElem (by omega)
    have hs := hstep i _ ho
    have hl := ln_mono hstep (Nat.zero_le i) (by omega)
    have hl' : ln T i ≤ ln T (i + 1) := hs.len
    have e : (T (i + 1)).cr = (T i).cr ++ List.replicate (ln T (i + 1) - ln T i) i := hs.crs
    refine ⟨by rw [e, List.length_append, k1, List.length_replicate]; omega, fun id h1 h2 => ?_⟩
    rcases Nat.lt_or_ge id (ln T i) with h3 | h3
    · obtain ⟨j, a1, a2, a3⟩ := k2 id h1 h3
      refine ⟨j, by omega, ?_, a3⟩
      rw [e, List.getD_eq_getElem?_getD, List.getElem?_append_left (by omega), ← List.getD_eq_getElem?_getD]
      exact a2
    · refine ⟨i, by omega, ?_, h3, h2⟩
      rw [e, List.getD_eq_getElem?_getD, List.getElem?_append_right (by omega), List.getElem?_replicate, if_pos (by omega)]
      rfl
variable (hchk : Chk ops M kb Z)
include hchk
omit hstep in
theorem pre_in {S : Nat → Prop} (hcl : ∀ i o, S i → ops[i]? = some o → ∀ e ∈ o.after.toList, Region.binds .any e = true → S e.on) :
    ∀ (i : Nat) (o : Oper), ops[i]? = some o → (∀ e ∈ o.after.toList, Region.binds .any e = true → S e.on) → ∀ j, j < i → (M.getD i 0).testBit j = true → S j := by
  intro i
  induction i using Nat.strongRecOn with
  | _ i ih =>
    intro o ho he j hj ht
    obtain ⟨e, h1, h2, h3⟩ := hchk.cert i o ho j hj ht
    have hS := he e h1 h2
    have hlt := hchk.edge i o ho e h1 h2
    rcases h3 with rfl | ⟨h3, h4⟩
    · exact hS
    · have hsz : i < ops.size := (Array.getElem?_eq_some_iff.1 ho).1
      have ho' : ops[e.on]? = some ops[e.on] := Array.getElem?_eq_getElem (by omega)
      exact ih e.on hlt _ ho' (fun e' he' hb' => hcl e.on _ hS ho' e' he' hb') j h3 h4
/-- What an operation that is ready reads is what the text's order reads. -/
theorem reads_ok {S : Nat → Prop} {a : Act} {w : World} {μ : Mu} (hI : AInv ops kb nt Z l0 T S F w0 μ0 a w μ) {i : Nat} {o : Oper} (ho : ops[i]? = some o) (hS : ¬ S i) (hr : ∀ e ∈ o.after.toList, Region.binds .any e = true → S e.on)
    {t : Tmp} (htl : t ∈ o.looksAt ops) {x : Value} (hx : look (T i).σ t = some x) : VR (restr μ (ln T i)) x (a.tmps.getD t undef) := by
  have hsz : i < ops.size := (Array.getElem?_eq_some_iff.1 ho).1
  rcases hist hstep (Nat.le_of_lt hsz) t x hx with ⟨j, oj, hj, hoj, hd, rfl⟩ | ⟨hno, hx0⟩
  · have hp : (M.getD i 0).testBit j = true := by
      rcases hchk.reads i o j oj t ho hoj (by omega) hd htl with h | h
      · exact h.2
      · omega
    have hSj := pre_in hchk hI.closed i o ho hr j hj hp
    exact (hI.s1 j oj t hSj hoj hd).mono (restr_mono (fun _ _ h => h) (ln_mono hstep (by omega) (by omega)))
  · refine ((hI.s0 t x (fun k ok hSk hok hd => ?_) hx0).2).mono (restr_mono (fun _ _ h => h) (ln_mono hstep (Nat.zero_le _) (by omega)))
    rcases Nat.lt_trichotomy k i with h | h | h
    · exact hno k ok h hok hd
    · subst h; exact hS hSk
    · rcases hchk.reads i o k ok t ho hok (by omega) hd htl with h' | h'
      · omega
      · exact hS (pre_in hchk hI.closed k ok hok (fun e he hb => hI.closed k ok hSk hok e he hb) i h'.1 h'.2)
theorem operands_ok {S : Nat → Prop} {a : Act} {w : World} {μ : Mu} (hI : AInv ops kb nt Z l0 T S F w0 μ0 a w μ) {i : Nat} {o : Oper} (ho : ops[i]? = some o) (hS : ¬ S i) (hr : ∀ e ∈ o.after.toList, Region.binds .any e = true → S e.on) :
    ∀ x u, x ∈ o.op.operands → ev (T i).σ x = some u → VR (restr μ (ln T i)) u (a.eval x) := by
  intro x u hx hu
  cases x with
  | tmp t => exact reads_ok hstep hchk hI ho hS hr (List.mem_append_left _ (List.mem_filterMap.2 ⟨.tmp t, by simpa using hx, rfl⟩)) hu
  | const c =>
    simp only [ev] at hu
    cases hp : plain 4 c <;> rw [hp] at hu
    · cases hu
    · rw [cond_true, Option.some.injEq] at hu
      subst hu
      exact plain_refl _ 4 _ hp
  | global g => cases hu
  | func f => cases hu; exact .func rfl (fun i u v h _ => by simp at h) rfl (fun i u v h _ => by simp at h)
theorem want_ok' {S : Nat → Prop} {a : Act} {w : World} {μ : Mu} (hd : dstsOK nt ops = true) (hI : AInv ops kb nt Z l0 T S F w0 μ0 a w μ) {i : Nat} {o : Oper} (ho : ops[i]? = some o) (hS : ¬ S i) (hr : ∀ e ∈ o.after.toList, Region.binds .any e = true → S e.on) {b : Bool}
    (hw : Want ops (T i).σ o b) : Region.wanted o (yielded ops a.tmps) = b := by
  unfold Want at hw
  unfold Region.wanted
  cases hg : o.guard with
  | none => rw [hg] at hw; exact hw.symm
  | some g =>
    obtain ⟨j, want⟩ := g
    rw [hg] at hw
    obtain ⟨d, v, h1, h2, hv⟩ := hw
    have k2 := reads_ok hstep hchk hI ho hS hr (t := d) (List.mem_append_right _ (by rw [hg]; simp only []; rw [h1]; simp)) h2
    obtain ⟨oj, hoj, hdj⟩ := Option.bind_eq_some_iff.1 h1
    have k1 : d < a.tmps.size := by
      rw [hI.size]
      exact dstsOK_spec hd oj (by rw [← Array.getElem?_toList] at hoj; exact List.mem_of_getElem? hoj) d hdj
    rcases hv with ⟨c, rfl, rfl⟩ | ⟨rfl, rfl⟩
    rotate_left
    · have hy : yielded ops a.tmps j = none := yielded_undef h1 k1 k2
      simp only [hy]
      rfl
    have e := k2.bool'
    have hy : yielded ops a.tmps j = some c := by
      unfold yielded
      rw [h1]
      have : a.tmps[d]? = some (.bool c) := by
        rw [Array.getElem?_eq_getElem k1, ← e]
        simp [Array.getD, k1]
      simp [this]
    simp only [hy]
    cases c <;> cases want <;> rfl
omit hstep in
/-- The slots, and the rest beside memory, behind an operation. -/
theorem slots_step {S : Nat → Prop} {a : Act} {w w' : World} {μ μ' : Mu} (hd : dstsOK nt ops = true) (hI : AInv ops kb nt Z l0 T S F w0 μ0 a w μ) {i : Nat} {o : Oper} (ho : ops[i]? = some o) (hr : ∀ e ∈ o.after.toList, Region.binds .any e = true → S e.on)
    {y : Value} (hv : VR (restr μ' (ln T (i + 1))) (T i).v y) (hs : ∀ id L, μ id = some L → μ' id = some L) (he : Ext (ln T 0) μ μ') (hdm : ∀ id, μ' id ≠ none → μ id ≠ none ∨ (ln T i ≤ id ∧ id < ln T (i + 1)))
    (hm : ((∀ k o, (S k ∨ k = i) → ops[k]? = some o → touch o.op = true → k < kb) ∧ MemA T (fun k => S k ∨ k = i) F w0 μ' w') ∨ ∃ k, MemB ops kb Z T (fun k => S k ∨ k = i) F w0 μ' w' k) :
    AInv ops kb nt Z l0 T (fun k => S k ∨ k = i) F w0 μ0 (a.put o.dst y) w' μ' where
  lt k hk := by
    rcases hk with hk | rfl
    · exact hI.lt k hk
    · exact (Array.getElem?_eq_some_iff.1 ho).1
  closed k ok hk hok e he hb := by
    rcases hk with hk | rfl
    · exact .inl (hI.closed k ok hk hok e he hb)
    · rw [ho] at hok; cases hok
      exact .inl (hr e he hb)
  size := by rw [Act.size_put]; exact hI.size
  defers := by rw [Act.defers_put]; exact hI.defers
  s1 k ok t hk hok hdk := by
    have hput : ∀ d, o.dst = some d → d < a.tmps.size := fun d hd' => by rw [hI.size]; exact dstsOK_spec hd o (by rw [← Array.getElem?_toList] at ho; exact List.mem_of_getElem? ho) d hd'
    by_cases hki : k = i
    · subst hki
      rw [ho] at hok; cases hok
      have := hput t hdk
      rw [hdk]
      simpa [Act.put, this] using hv
    · have hS : S k := by rcases hk with h | h; exact h; exact absurd h hki
      have hne : o.dst ≠ some t := hchk.one i o k ok t ho hok (fun e => hki e.symm) hdk
      have : (a.put o.dst y).tmps.getD t undef = a.tmps.getD t undef := by
        cases hdo : o.dst with
        | none => rfl
        | some d => simp [Act.put, show d ≠ t from fun e => hne (by rw [hdo, e])]
      rw [this]
      exact (hI.s1 k ok t hS hok hdk).mono (restr_mono hs (Nat.le_refl _))
  s0 t x hno hx := by
    have h := hI.s0 t x (fun k ok hk => hno k ok (.inl hk)) hx
    have hne : o.dst ≠ some t := hno i o (.inr rfl) ho
    have : (a.put o.dst y).tmps.getD t undef = a.tmps.getD t undef := by
      cases hdo : o.dst with
      | none => rfl
      | some d => simp [Act.put, show d ≠ t from fun e => hne (by rw [hdo, e])]
    rw [this]
    exact ⟨h.1, h.2.mono (restr_mono hs (Nat.le_refl _))⟩
  dom id hid := by
    rcases hdm id hid with h | h
    · rcases hI.dom id h with h | ⟨j, h1, h2⟩
      · exact .inl h
      · exact .inr ⟨j, .inl h1, h2⟩
    · exact .inr ⟨i, .inr rfl, h⟩
  ext := hI.ext.trans he
  mem := hm
omit hchk in
/-- Operations that leave memory alone. -/
theorem same_mem {c i : Nat} (hci : c ≤ i) (hi : i ≤ ops.size) (h : ∀ j o, c ≤ j → j < i → ops[j]? = some o → touch o.op = false) : (T i).m = (T c).m := by
  induction i with
  | zero => rw [Nat.le_zero.1 hci]
  | succ i ih =>
    rcases Nat.lt_or_ge c (i + 1) with hc | hc
    · have ho : ops[i]? = some ops[i] := Array.getElem?_eq_getElem (by omega)
      rw [← ih (by omega) (by omega) fun j o h1 h2 => h j o h1 (by omega)]
      have ht := h i _ (by omega) (by omega) ho
      rcases (hstep i _ ho).does with h1 | h1 | h1 | h1 | h1
      · exact h1.2.2
      · exact h1.2.2.1
      · rw [ht] at h1; cases h1.2.2.2.1
      · rw [ht] at h1; cases h1.2.2.2.1
      · exact h1.2.2.2.1
    · rw [show c = i + 1 by omega]
omit hchk in
/-- Before the first operation that writes blocks are only added. -/
theorem live_pre {c i id : Nat} (hci : c ≤ i) (hi : i ≤ ops.size) (h : ∀ j o, c ≤ j → j < i → ops[j]? = some o → touch o.op = true → j < kb) (hid : id < ln T c) : live (T i).m id = live (T c).m id := by
  induction i with
  | zero => rw [Nat.le_zero.1 hci]
  | succ i ih =>
    rcases Nat.lt_or_ge c (i + 1) with hc | hc
    · have ho : ops[i]? = some ops[i] := Array.getElem?_eq_getElem (by omega)
      rw [← ih (by omega) (by omega) fun j o h1 h2 => h j o h1 (by omega)]
      have hle := ln_mono hstep (show c ≤ i by omega) (by omega)
      rcases (hstep i _ ho).does with h1 | h1 | h1 | h1 | h1
      · rw [h1.2.2]
      · rw [h1.2.2.1]
      · obtain ⟨_, _, _, _, N, h2, _⟩ := h1
        rw [h2]
        unfold live
        rw [List.getElem?_append_left (Nat.lt_of_lt_of_le hid hle)]
      · have := h i _ (by omega) (by omega) ho h1.2.2.2.1
        have := h1.2.2.1
        omega
      · rw [h1.2.2.2.1]
    · rw [show c = i + 1 by omega]
omit hchk in
/-- The one block stays as it was. -/
theorem live_b0 (hb : b0 < ln T 0) {i : Nat} (hi : i ≤ ops.size) : live (T i).m b0 = live (T 0).m b0 := by
  induction i with
  | zero => rfl
  | succ i ih =>
    have ho : ops[i]? = some ops[i] := Array.getElem?_eq_getElem (by omega)
    rw [← ih (by omega)]
    have hle := ln_mono hstep (Nat.zero_le i) (by omega)
    rcases (hstep i _ ho).does with h1 | h1 | h1 | h1 | h1
    · rw [h1.2.2]
    · rw [h1.2.2.1]
    · obtain ⟨_, _, _, _, N, h2, _⟩ := h1
      rw [h2]
      unfold live
      rw [List.getElem?_append_left (Nat.lt_of_lt_of_le hb hle)]
    · exact h1.2.1
    · rw [h1.2.2.2.1]
/-- What comes alone finds all blocks. -/
theorem full {S : Nat → Prop} {a : Act} {w : World} {μ : Mu} (h00 : (T 0).cr = []) (hI : AInv ops kb nt Z l0 T S F w0 μ0 a w μ) {i : Nat} {o : Oper} (ho : ops[i]? = some o) (hS : ¬ S i) (hr : ∀ e ∈ o.after.toList, Region.binds .any e = true → S e.on)
    (hk : kb ≤ i) (ht : touch o.op = true) : (∀ j o', ops[j]? = some o' → touch o'.op = true → Z.contains j = false → (S j ↔ j < i)) ∧ RepM F w0 (restr μ (ln T i)) (T i).m w := by
  have hiz : Z.contains i = false := by
    cases h : Z.contains i with
    | false => rfl
    | true => have := hchk.late i h; omega
  have hsz : i < ops.size := (Array.getElem?_eq_some_iff.1 ho).1
  have hall : ∀ j o', ops[j]? = some o' → touch o'.op = true → Z.contains j = false → (S j ↔ j < i) := fun j o' ho' ht' hz' => by
    refine ⟨fun hj => ?_, fun hj => pre_in hchk hI.closed i o ho hr j hj (hchk.alone i o j o' ho ho' hk ht hj ht' hz')⟩
    rcases Nat.lt_trichotomy j i with h | h | h
    · exact h
    · subst h; exact absurd hj hS
    · exact absurd (pre_in hchk hI.closed j o' ho' (fun e he hb => hI.closed j o' hj ho' e he hb) i h (hchk.alone j o' i o ho' ho (by omega) ht' h ht hiz)) hS
  refine ⟨hall, ?_⟩
  rcases hI.mem with ⟨hA, hM⟩ | ⟨k, hB⟩
  · have hno : ∀ j o', j < i → ops[j]? = some o' → touch o'.op = true → j < kb := fun j o' hj ho' ht' => by
      cases hz' : Z.contains j with
      | true => exact hchk.late j hz'
      | false => exact hA j o' ((hall j o' ho' ht' hz').2 hj) ho' ht'
    have hcls : ∀ id B, live (T i).m id = some B → ∃ c, c ≤ i ∧ Cls T S c id ∧ live (T c).m id = some B := fun id B hB => by
      have hid : id < ln T i := by
        rw [live_some] at hB
        exact (List.getElem?_eq_some_iff.1 hB).1
      rcases Nat.lt_or_ge id (ln T 0) with h | h
      · exact ⟨0, Nat.zero_le _, .inl ⟨rfl, h⟩, by rw [← live_pre hstep (Nat.zero_le i) (by omega) (fun j o' _ h2 => hno j o' h2) h]; exact hB⟩
      · obtain ⟨j, h1, _, h3, h4⟩ := (made hstep (Nat.le_of_lt hsz) h00).2 id h hid
        have hoj : ops[j]? = some ops[j] := Array.getElem?_eq_getElem (by omega)
        have htj : touch ops[j].op = true ∧ Z.contains j = false := by
          rcases (hstep j _ hoj).does with h5 | h5 | h5 | h5 | h5
          · have := h5.2.2; unfold ln at *; rw [this] at h4; omega
          · have := h5.2.2.1; unfold ln at *; rw [this] at h4; omega
          · exact ⟨h5.2.2.2.1, h5.2.1⟩
          · refine ⟨h5.2.2.2.1, ?_⟩
            cases h : Z.contains j with
            | false => rfl
            | true => have := hchk.late j h; have := h5.2.2.1; omega
          · have := h5.2.2.2.1; unfold ln at *; rw [this] at h4; omega
        exact ⟨j + 1, by omega, .inr ⟨j, rfl, (hall j _ hoj htj.1 htj.2).2 h1, h3, h4⟩, by rw [← live_pre hstep (show j + 1 ≤ i by omega) (by omega) (fun j o' _ h2 => hno j o' h2) h4]; exact hB⟩
    refine ⟨hM.fr.os, hM.fr.tape, hM.fr.output, hM.fr.size, hM.fr.frame, hM.fr.up, fun id B hB => ?_, fun id id' B B' L L' h1 h2 hne hl hl' => ?_⟩
    · obtain ⟨c, h1, h2, h3⟩ := hcls id B hB
      obtain ⟨L, k1, k2, k3⟩ := hM.blk c id B h2 h3
      have hid : id < ln T i := by
        rw [live_some] at hB
        exact (List.getElem?_eq_some_iff.1 hB).1
      exact ⟨L, by unfold restr; rw [if_pos hid]; exact k1, k2.mono (restr_mono (fun _ _ h => h) (ln_mono hstep h1 (by omega))), k3⟩
    · obtain ⟨c, _, a2, a3⟩ := hcls id B h1
      obtain ⟨c', _, b2, b3⟩ := hcls id' B' h2
      have un : ∀ {id L}, restr μ (ln T i) id = some L → μ id = some L := fun {id L} h => by
        unfold restr at h
        split at h
        · exact h
        · cases h
      exact hM.excl c c' id id' B B' L L' a2 b2 a3 b3 hne (un hl) (un hl')
  · obtain ⟨ok, hok, htk⟩ := hB.op
    have hkz : Z.contains k = false := by
      cases h : Z.contains k with
      | false => rfl
      | true => have := hchk.late k h; have := hB.le; omega
    have hki : k < i := (hall k ok hok htk hkz).1 ((hB.all k ok hok htk hkz).2 (Nat.le_refl _))
    have e : (T i).m = (T (k + 1)).m := same_mem hstep (show k + 1 ≤ i by omega) (by omega) fun j o' h1 h2 h3 => by
      cases ht' : touch o'.op with
      | false => rfl
      | true =>
        have hzj : Z.contains j = false := by
          cases h : Z.contains j with
          | false => rfl
          | true => have := hchk.late j h; have := hB.le; omega
        have := (hB.all j o' h3 ht' hzj).1 ((hall j o' h3 ht' hzj).2 h2); omega
    have := hB.rep
    unfold ln at *
    rw [e]
    exact this
/-- One operation, whichever is ready. -/
theorem any_step {S : Nat → Prop} {a : Act} {w : World} {μ : Mu} {Q : Exit → Act → World → Prop} {K : Act → World → Prop} (hd : dstsOK nt ops = true) (h00 : (T 0).cr = []) (hb0 : b0 < ln T 0) (hcb : ∀ B, live (T 0).m b0 = some B → B.z ≠ mapZ ∧ B.cells.all (belB (ln T 0) 3) = true) (hI : AInv ops kb nt Z l0 T S F w0 μ0 a w μ) {i : Nat} {o : Oper} (ho : ops[i]? = some o) (hS : ¬ S i)
    (hr : ∀ e ∈ o.after.toList, Region.binds .any e = true → S e.on) (hK : ∀ a' w' μ', AInv ops kb nt Z l0 T (fun k => S k ∨ k = i) F w0 μ0 a' w' μ' → K a' w') : wpOp P ops Q i K a w := by
  have hsz : i < ops.size := (Array.getElem?_eq_some_iff.1 ho).1
  have hstp := hstep i o ho
  have hle : ln T i ≤ ln T (i + 1) := hstp.len
  have hle0 := ln_mono hstep (Nat.zero_le i) (by omega)
  have hops := operands_ok hstep hchk hI ho hS hr
  unfold wpOp
  simp only [ho]
  -- nothing is added to the blocks, memory keeps
  have calm : ∀ {y : Value} {w' : World}, ln T (i + 1) = ln T i → (T (i + 1)).m = (T i).m → (touch o.op = true → kb ≤ i → False) → VR (restr μ (ln T i)) (T i).v y → w'.os = w.os → w'.tape = w.tape → w'.output = w.output → w.heap.size ≤ w'.heap.size →
      (∀ k, k < w.heap.size → w'.heap[k]? = w.heap[k]?) → K (a.put o.dst y) w' := fun {y w'} hl hmm hnb hv e1 e2 e3 e4 e5 => by
    refine hK _ _ μ (slots_step hchk hd hI ho hr (by rw [hl]; exact hv) (fun _ _ h => h) (Ext.refl _ _) (fun id h => .inl h) ?_)
    rcases hI.mem with ⟨hA, hM⟩ | ⟨k, hB⟩
    · refine .inl ⟨fun k ok hk hok ht => ?_, memA_add (hM.keep e1 e2 e3 e4 e5) hl⟩
      rcases hk with hk | rfl
      · exact hA k ok hk hok ht
      · rw [ho] at hok; cases hok
        rcases Nat.lt_or_ge k kb with h | h
        · exact h
        · exact (hnb ht h).elim
    · refine .inr ⟨k, hB.op, hB.le, fun j o' ho' ht' hz' => ?_, hB.rep.keep e1 e2 e3 e4 e5⟩
      rw [← hB.all j o' ho' ht' hz']
      refine ⟨fun h => ?_, .inl⟩
      rcases h with h | rfl
      · exact h
      · rw [ho] at ho'; cases ho'
        have hk : ¬ kb ≤ j := fun h => hnb ht' h
        exact (hB.all j o ho ht' hz').2 (by have := hB.le; omega)
  rcases hstp.does with ⟨hw, hv, hm⟩ | ⟨hw, ht, hm, hop⟩ | ⟨hw, hz, hi, ht, N, hm, hN, hop⟩ | ⟨hw, hlb, hi, ht, hop⟩ | ⟨hw, hz, ht, hm, hop⟩
  · rw [if_neg (by rw [want_ok' hstep hchk hd hI ho hS hr hw]; simp)]
    by_cases hb : touch o.op = true ∧ kb ≤ i
    · obtain ⟨hall, hrep⟩ := full hstep hchk h00 hI ho hS hr hb.2 hb.1
      refine hK _ _ μ (slots_step hchk hd hI ho hr (by rw [hv]; exact vr_undef _) (fun _ _ h => h) (Ext.refl _ _) (fun id h => .inl h) (.inr ⟨i, ⟨o, ho, hb.1⟩, hb.2, fun j o' ho' ht' hz' => ?_, ?_⟩))
      · rw [hall j o' ho' ht' hz']; omega
      · unfold ln at *
        rw [hm]
        exact hrep
    · exact calm (by unfold ln; rw [hm]) hm (fun h1 h2 => hb ⟨h1, h2⟩) (by rw [hv]; exact vr_undef _) rfl rfl rfl (Nat.le_refl _) (fun _ _ => rfl)
  · rw [if_pos (want_ok' hstep hchk hd hI ho hS hr hw)]
    refine .inl (hop.ok (fun k => w.heap.size ≤ k) w (restr μ (ln T i)) a w K Q (by simpa [holes] using restr_dom μ (ln T i)) ⟨rfl, rfl, rfl, Nat.le_refl _, fun _ _ => rfl, fun _ h => h, fun id B hB => (holes_live _ _ _ hB).elim, fun id id' B B' L L' h1 => (holes_live _ _ _ h1).elim⟩
      (fun x u hx hu => hops x u hx hu) fun μ2 y w' he hdm hrp hv => ?_)
    have e : μ2 = restr μ (ln T i) := by
      funext id
      rcases Nat.lt_or_ge id (ln T i) with h | h
      · exact he id (by simpa [holes] using h)
      · rw [hdm id (by simpa [holes] using h), restr_dom μ _ id h]
    subst e
    exact calm (by unfold ln; rw [hm]) hm (fun h => by rw [ht] at h; cases h) hv hrp.os hrp.tape hrp.output hrp.size fun k hk => hrp.frame k (by omega)
  · rw [if_pos (want_ok' hstep hchk hd hI ho hS hr hw)]
    rcases hI.mem with ⟨hA, hM⟩ | ⟨k, hB⟩
    case inr => exact absurd ((hB.all i o ho ht hz).2 (by have := hB.le; omega)) hS
    have hlN : ln T (i + 1) = ln T i + N.length := by unfold ln; rw [hm, List.length_append]
    have hcls : ∀ id B, live (vis (ln T 0) (T i).cr (fun j => (M.getD i 0).testBit j) (T i).m) id = some B → id < ln T i ∧ ∃ B' c, c ≤ i ∧ B = { B' with rw := false } ∧ Cls T S c id ∧ live (T c).m id = some B' := fun id B hB => by
      obtain ⟨B', h1, h2, h3⟩ := vis_live hB
      have hid : id < ln T i := by
        rw [live_some] at h1
        exact (List.getElem?_eq_some_iff.1 h1).1
      refine ⟨hid, B', ?_⟩
      have early : ∀ (c j : Nat) (o' : Oper), c ≤ j → j < i → ops[j]? = some o' → touch o'.op = true → j < kb := fun c j o' _ h _ _ => by omega
      rcases Nat.lt_or_ge id (ln T 0) with h | h
      · exact ⟨0, Nat.zero_le _, h2, .inl ⟨rfl, h⟩, by rw [← live_pre hstep (Nat.zero_le i) (by omega) (early 0) h]; exact h1⟩
      · obtain ⟨j, k1, k2, k3, k4⟩ := (made hstep (Nat.le_of_lt hsz) h00).2 id h hid
        rcases h3 with h3 | h3
        · omega
        · rw [k2] at h3
          exact ⟨j + 1, by omega, h2, .inr ⟨j, rfl, pre_in hchk hI.closed i o ho hr j k1 h3, k3, k4⟩, by rw [← live_pre hstep (show j + 1 ≤ i by omega) (by omega) (early _) k4]; exact h1⟩
    have hrep : RepM (fun k => w.heap.size ≤ k) w (restr μ (ln T i)) (vis (ln T 0) (T i).cr (fun j => (M.getD i 0).testBit j) (T i).m) w := by
      refine ⟨rfl, rfl, rfl, Nat.le_refl _, fun _ _ => rfl, fun _ h => h, fun id B hB => ?_, fun id id' B B' L L' h1 h2 hne hl hl' hrw => ?_⟩
      · obtain ⟨hid, B', c, hc, rfl, h1, h2⟩ := hcls id B hB
        obtain ⟨L, k1, k2, k3⟩ := hM.blk c id B' h1 h2
        have k2' := k2.mono (restr_mono (μ' := μ) (fun _ _ h => h) (ln_mono hstep hc (by omega)))
        exact ⟨L, by unfold restr; rw [if_pos hid]; exact k1, ⟨fun h => (by cases h), k2'.z, k2'.cells, fun hr hb => k2'.row hr (.inr (by rcases hb with hb | hb; cases hb.1; exact hb)), k2'.mN⟩, fun h => (by cases h.1)⟩
      · obtain ⟨_, B1, _, _, rfl, _⟩ := hcls id B h1
        cases hrw.1
    refine .inl (hop.ok (fun k => w.heap.size ≤ k) w (restr μ (ln T i)) a w K Q (by rw [vis_len]; exact restr_dom μ _) hrep (fun x u hx hu => hops x u hx hu) fun μ2 y w' he hdm hrp hv => ?_)
    rw [vis_len] at he
    rw [List.length_append, vis_len] at hdm
    have hfresh : ∀ id, ln T i ≤ id → id < ln T (i + 1) → μ id = none := fun id h1 h2 => by
      cases hq : μ id with
      | none => rfl
      | some L =>
        rcases hI.dom id (by rw [hq]; simp) with h | ⟨j, h3, h4, h5⟩
        · omega
        · have hj := hI.lt j h3
          rcases Nat.lt_trichotomy j i with h | h | h
          · have := ln_mono hstep (show j + 1 ≤ i by omega) (by omega); omega
          · subst h; exact absurd h3 hS
          · have := ln_mono hstep (show i + 1 ≤ j by omega) (by omega); omega
    have hsub : ∀ id L, μ id = some L → joinMu μ μ2 (ln T i) (ln T (i + 1)) id = some L := fun id L h => by
      unfold joinMu
      split
      · rename_i hc; rw [hfresh id hc.1 hc.2] at h; cases h
      · exact h
    have hres : restr (joinMu μ μ2 (ln T i) (ln T (i + 1))) (ln T (i + 1)) = μ2 := by
      funext id
      unfold restr joinMu
      rcases Nat.lt_or_ge id (ln T (i + 1)) with h | h
      · rw [if_pos h]
        rcases Nat.lt_or_ge id (ln T i) with h' | h'
        · rw [if_neg (by omega), he id h']
          unfold restr
          rw [if_pos h']
        · rw [if_pos ⟨h', h⟩]
      · rw [if_neg (by omega), hdm id (by have hl0 : (T i).m.length = ln T i := rfl; omega)]
    have hold : ∀ {id : Nat}, id < ln T i → joinMu μ μ2 (ln T i) (ln T (i + 1)) id = μ id := fun {id} h => by unfold joinMu; rw [if_neg (by omega)]
    have hMk := hM.keep (w' := w') hrp.os hrp.tape hrp.output hrp.size fun k hk => hrp.frame k (by omega)
    refine hK _ _ (joinMu μ μ2 (ln T i) (ln T (i + 1))) (slots_step hchk hd hI ho hr (by rw [hres]; exact hv) hsub (fun id h => hold (by omega)) (fun id h => ?_) (.inl ⟨fun k ok hk hok htk => ?_, hMk.fr, fun c id B hc hB => ?_, fun c c' id id' B B' L L' hc hc' hB hB' hne hL hL' hrw hb => ?_⟩))
    · by_cases hc : ln T i ≤ id ∧ id < ln T (i + 1)
      · exact .inr hc
      · left
        unfold joinMu at h
        rwa [if_neg hc] at h
    · rcases hk with hk | rfl
      · exact hA k ok hk hok htk
      · exact hi
    · have old : Cls T S c id → _ := fun hc => hMk.blk c id B hc hB
      rcases hc with hc | ⟨j, rfl, hj | rfl, h3, h4⟩
      · obtain ⟨L, k1, k2, k3⟩ := old (.inl hc)
        exact ⟨L, hsub _ _ k1, k2.mono (restr_mono hsub (Nat.le_refl _)), k3⟩
      · obtain ⟨L, k1, k2, k3⟩ := old (.inr ⟨j, rfl, hj, h3, h4⟩)
        exact ⟨L, hsub _ _ k1, k2.mono (restr_mono hsub (Nat.le_refl _)), k3⟩
      · have hB' : live (vis (ln T 0) (T j).cr (fun k => (M.getD j 0).testBit k) (T j).m ++ N) id = some B := by
          rw [hm, live_some, List.getElem?_append_right h3] at hB
          rw [live_some, List.getElem?_append_right (by rw [vis_len]; exact h3), vis_len]
          exact hB
        obtain ⟨L, k1, k2, k3⟩ := hrp.blk id B hB'
        refine ⟨L, by unfold joinMu; rw [if_pos ⟨h3, h4⟩]; exact k1, by rw [hres]; exact k2, fun h => hM.fr.up _ (Nat.le_trans hM.fr.size (k3 h))⟩
    · have hnew : ∀ {c id B L}, Cls T (fun k => S k ∨ k = i) c id → live (T c).m id = some B → joinMu μ μ2 (ln T i) (ln T (i + 1)) id = some L → Takes B L →
          (Cls T S c id ∧ μ id = some L ∧ L.b < w.heap.size) ∨ (live (vis (ln T 0) (T i).cr (fun k => (M.getD i 0).testBit k) (T i).m ++ N) id = some B ∧ μ2 id = some L ∧ w.heap.size ≤ L.b ∧ Rw B L) := fun {c id B L} hc hB hL hb => by
        have old : Cls T S c id → (Cls T S c id ∧ μ id = some L ∧ L.b < w.heap.size) := fun hc => by
          obtain ⟨L', k1, k2, k3⟩ := hM.blk c id B hc hB
          rw [hsub _ _ k1] at hL
          cases hL
          exact ⟨hc, k1, k2.lt hb⟩
        rcases hc with hc | ⟨j, rfl, hj | rfl, h3, h4⟩
        · exact .inl (old (.inl hc))
        · exact .inl (old (.inr ⟨j, rfl, hj, h3, h4⟩))
        · right
          have hid : ¬ id < ln T j := by omega
          have hmem : (N[id - ln T j]?) = some (some B) := by
            rw [hm, live_some, List.getElem?_append_right h3] at hB
            exact hB
          have hB' : live (vis (ln T 0) (T j).cr (fun k => (M.getD j 0).testBit k) (T j).m ++ N) id = some B := by
            rw [live_some, List.getElem?_append_right (by rw [vis_len]; exact h3), vis_len]
            exact hmem
          have hrw' : B.rw = true := by
            have := List.all_eq_true.1 hN (some B) (List.mem_of_getElem? hmem)
            exact this
          obtain ⟨L', k1, k2, k3⟩ := hrp.blk id B hB'
          unfold joinMu at hL
          rw [if_pos ⟨h3, h4⟩] at hL
          rw [k1] at hL; cases hL
          have hrw' := k2.act hrw' hb
          exact ⟨hB', k1, k3 hrw', hrw'⟩
      rcases hnew hc hB hL (.inl hrw) with ⟨p1, p2, p3⟩ | ⟨p1, p2, p3, p4⟩ <;> rcases hnew hc' hB' hL' hb with ⟨q1, q2, q3⟩ | ⟨q1, q2, q3, q4⟩
      · exact hM.excl c c' id id' B B' L L' p1 q1 hB hB' hne p2 q2 hrw hb
      · omega
      · omega
      · exact hrp.excl id id' B B' L L' p1 q1 hne p2 q2 p4 (.inl q4)
  · rw [if_pos (want_ok' hstep hchk hd hI ho hS hr hw)]
    obtain ⟨hall, hrep⟩ := full hstep hchk h00 hI ho hS hr hi ht
    refine .inl (hop.ok F w0 (restr μ (ln T i)) a w K Q (restr_dom μ _) hrep (fun x u hx hu => hops x u hx hu) fun μ2 y w' he hdm hrp hv => ?_)
    have hfresh : ∀ id, ln T i ≤ id → id < ln T (i + 1) → μ id = none := fun id h1 h2 => by
      cases hq : μ id with
      | none => rfl
      | some L =>
        rcases hI.dom id (by rw [hq]; simp) with h | ⟨j, h3, h4, h5⟩
        · omega
        · have hj := hI.lt j h3
          rcases Nat.lt_trichotomy j i with h | h | h
          · have := ln_mono hstep (show j + 1 ≤ i by omega) (by omega); omega
          · subst h; exact absurd h3 hS
          · have := ln_mono hstep (show i + 1 ≤ j by omega) (by omega); omega
    have hsub : ∀ id L, μ id = some L → joinMu μ μ2 (ln T i) (ln T (i + 1)) id = some L := fun id L h => by
      unfold joinMu
      split
      · rename_i hc; rw [hfresh id hc.1 hc.2] at h; cases h
      · exact h
    have hres : restr (joinMu μ μ2 (ln T i) (ln T (i + 1))) (ln T (i + 1)) = μ2 := by
      funext id
      unfold restr joinMu
      rcases Nat.lt_or_ge id (ln T (i + 1)) with h | h
      · rw [if_pos h]
        rcases Nat.lt_or_ge id (ln T i) with h' | h'
        · rw [if_neg (by omega), he id h']
          unfold restr
          rw [if_pos h']
        · rw [if_pos ⟨h', h⟩]
      · rw [if_neg (by omega), hdm id h]
    refine hK _ _ (joinMu μ μ2 (ln T i) (ln T (i + 1))) (slots_step hchk hd hI ho hr (by rw [hres]; exact hv) hsub (fun id h => by unfold joinMu; rw [if_neg (by omega)]) (fun id h => ?_) (.inr ⟨i, ⟨o, ho, ht⟩, hi, fun j o' ho' ht' hz' => ?_, by rw [hres]; exact hrp⟩))
    · by_cases hc : ln T i ≤ id ∧ id < ln T (i + 1)
      · exact .inr hc
      · left
        unfold joinMu at h
        rwa [if_neg hc] at h
    · rw [hall j o' ho' ht' hz']; omega
  · rw [if_pos (want_ok' hstep hchk hd hI ho hS hr hw)]
    have hlb := live_b0 hstep hb0 (Nat.le_of_lt hsz)
    have hrep : RepM (fun k => w.heap.size ≤ k) w (restr μ (ln T i)) (only b0 (T i).m) w := by
      refine ⟨rfl, rfl, rfl, Nat.le_refl _, fun _ _ => rfl, fun _ h => h, fun id B hB => ?_, fun id id' B B' L L' h1 h2 hne hl hl' hrw => ?_⟩
      · obtain ⟨rfl, B', h1, rfl⟩ := only_live hB
        rw [hlb] at h1
        have hin : id < ln T i := by omega
        obtain ⟨hz', hcells⟩ := hcb B' h1
        have key : ∃ L, μ id = some L ∧ ∃ n, ln T 0 ≤ n ∧ BlkOK (restr μ n) B' L w := by
          rcases hI.mem with ⟨hA, hM⟩ | ⟨k, hB⟩
          · obtain ⟨L, k1, k2, _⟩ := hM.blk 0 id B' (.inl ⟨rfl, hb0⟩) h1
            exact ⟨L, k1, _, Nat.le_refl _, k2⟩
          · obtain ⟨ok, hok, _⟩ := hB.op
            have hks : k < ops.size := (Array.getElem?_eq_some_iff.1 hok).1
            have h2 := live_b0 hstep hb0 (show k + 1 ≤ ops.size by omega)
            obtain ⟨L, k1, k2, _⟩ := hB.rep.blk id B' (by rw [h2]; exact h1)
            refine ⟨L, ?_, _, ln_mono hstep (Nat.zero_le (k + 1)) (by omega), k2⟩
            unfold restr at k1
            split at k1
            · exact k1
            · cases k1
        obtain ⟨L, k1, n, hn, k2⟩ := key
        refine ⟨L, by unfold restr; rw [if_pos hin]; exact k1, ⟨fun h => (by cases h), k2.z, ?_, fun hr hb => k2.row hr (.inr (by rcases hb with hb | hb; cases hb.1; exact hb)), k2.mN⟩, fun h => (by cases h.1)⟩
        intro j x hx
        obtain ⟨y, h3, h4⟩ := k2.cells j x hx
        refine ⟨y, h3, vr_bel (n := ln T 0) (fun q L hq hL => ?_) 3 x y (List.all_eq_true.1 hcells x (List.mem_of_getElem? hx)) h4⟩
        unfold restr at hL ⊢
        rw [if_pos (by omega)] at hL ⊢
        exact hL
      · obtain ⟨_, B1, _, rfl⟩ := only_live h1
        cases hrw.1
    refine .inl (hop.ok (fun k => w.heap.size ≤ k) w (restr μ (ln T i)) a w K Q (by rw [only_len]; exact restr_dom μ _) hrep (fun x u hx hu => hops x u hx hu) fun μ2 y w' he hdm hrp hv => ?_)
    have e : μ2 = restr μ (ln T i) := by
      funext id
      rcases Nat.lt_or_ge id (ln T i) with h | h
      · exact he id (by rw [only_len]; exact h)
      · rw [hdm id (by rw [only_len]; exact h), restr_dom μ _ id h]
    subst e
    exact calm (by unfold ln; rw [hm]) hm (fun _ h => by have := hchk.late i hz; omega) hv hrp.os hrp.tape hrp.output hrp.size fun k hk => hrp.frame k (by omega)
theorem any_sound {Q : Exit → Act → World → Prop} (hd : dstsOK nt ops = true) (h00 : (T 0).cr = []) (hb0 : b0 < ln T 0) (hcb : ∀ B, live (T 0).m b0 = some B → B.z ≠ mapZ ∧ B.cells.all (belB (ln T 0) 3) = true) (hQ : ∀ a w μ, AInv ops kb nt Z l0 T (fun i => i < ops.size) F w0 μ0 a w μ → Q .normal a w) :
    ∀ (fuel : Nat) (listed : Array Bool) (a : Act) (w : World) (μ : Mu), listed.size = ops.size → ((List.range ops.size).countP fun i => !listed.getD i false) ≤ fuel → AInv ops kb nt Z l0 T (fun i => listed.getD i false = true) F w0 μ0 a w μ →
      wpAny P .any ops Q fuel listed a w := by
  have full : ∀ (listed : Array Bool) (a : Act) (w : World) (μ : Mu), listed.size = ops.size → AInv ops kb nt Z l0 T (fun i => listed.getD i false = true) F w0 μ0 a w μ → Region.ready .any ops listed = [] → Q .normal a w := fun listed a w μ hsz hI hr => by
    have hall : ∀ i, i < ops.size → listed.getD i false = true := by
      intro i
      induction i using Nat.strongRecOn with
      | _ i ih =>
        intro hi
        cases hl : listed.getD i false with
        | true => rfl
        | false =>
          have ho : ops[i]? = some ops[i] := Array.getElem?_eq_getElem hi
          have : i ∈ Region.ready .any ops listed := mem_ready.2 ⟨by simp [Array.getD, hsz, hi] at hl ⊢; exact hl, _, ho, fun e he hb => by
            have := hchk.edge i _ ho e (by simpa using he) hb
            exact ih e.on this (by omega)⟩
          rw [hr] at this
          cases this
    have e : (fun i => listed.getD i false = true) = fun i => i < ops.size := by
      funext i
      apply propext
      refine ⟨fun h => hI.lt i h, hall i⟩
    rw [e] at hI
    exact hQ a w μ hI
  intro fuel
  induction fuel with
  | zero =>
    intro listed a w μ hsz hc hI
    have hr : Region.ready .any ops listed = [] := by
      apply List.eq_nil_iff_forall_not_mem.2
      intro i hi
      obtain ⟨h1, o, ho, _⟩ := mem_ready.1 hi
      have hi' : i < ops.size := (Array.getElem?_eq_some_iff.1 ho).1
      have := List.countP_eq_zero.1 (Nat.le_zero.1 hc) i (List.mem_range.2 hi')
      simp [Array.getD, hsz, hi'] at h1 this
      rw [h1] at this; cases this
    exact ⟨hr, full listed a w μ hsz hI hr⟩
  | succ fuel ih =>
    intro listed a w μ hsz hc hI
    refine ⟨full listed a w μ hsz hI, fun i hi => ?_⟩
    obtain ⟨h1, o, ho, he⟩ := mem_ready.1 hi
    have hi' : i < ops.size := (Array.getElem?_eq_some_iff.1 ho).1
    have hS : ¬ listed.getD i false = true := by
      simp [Array.getD, hsz, hi'] at h1 ⊢
      exact h1
    refine any_step hstep hchk hd h00 hb0 hcb hI ho hS (fun e hem hb => he e (by simpa using hem) hb) fun a' w' μ' hI' => ?_
    refine ih _ a' w' μ' (by simpa using hsz) ?_ ?_
    · have hlt : ((List.range ops.size).countP fun j => !(listed.setIfInBounds i true).getD j false) < (List.range ops.size).countP fun j => !listed.getD j false := by
        refine countP_lt (a := i) (fun j hj h => ?_) (List.mem_range.2 hi') (by simpa using hS) (by simp [Array.getD, hsz, hi'])
        have hj' := List.mem_range.1 hj
        by_cases hij : i = j
        · subst hij; simp [Array.getD, hsz, hi'] at h
        · simpa [Array.getD, hsz, hj', Array.getElem_setIfInBounds_ne, hij] using h
      omega
    · have e : (fun j => (listed.setIfInBounds i true).getD j false = true) = fun k => listed.getD k false = true ∨ k = i := by
        funext j
        apply propext
        by_cases hij : i = j
        · subst hij; simp [Array.getD, hsz, hi']
        · have : (listed.setIfInBounds i true).getD j false = listed.getD j false := by
            simp only [Array.getD, Array.size_setIfInBounds]
            split
            · exact Array.getElem_setIfInBounds_ne _ hij
            · rfl
          rw [this]
          constructor
          · exact .inl
          · rintro (h | h)
            · exact h
            · exact absurd h.symm hij
      rw [e]
      exact hI'
end
/-- A region that draws its order. -/
theorem aw_region_l {P : Program} {nt n0 : Nat} {Q : Exit → Slots → Mem → Prop} {σ : Slots} {m : Mem} {id : Nat} {ops : Array Oper} (M : List Nat) (kb : Nat) (Z : List Nat) (b0 : Nat) (hf : P.follows .mixedOrders = true) (hc : chkD ops M kb Z = true) (hd : dstsOK nt ops = true) (hn : n0 ≤ m.length) (hb0 : Nat.blt b0 m.length = true) (hcb : (match live m b0 with | some B => B.z != mapZ && B.cells.all (belB m.length 3) | none => true) = true)
    (h : RunD P ops M kb m.length Z b0 (fun σ' m' => Q .normal σ' m') 0 ops.toList σ m []) : AW P nt n0 (.region id ops true) Q σ m := by
  constructor
  intro rd F w0 μ a w _ hr
  obtain ⟨T, h1, h2, h3, h4, σe, h5, h6⟩ := trace h
  have hstep : ∀ (j : Nat) (o : Oper), ops[j]? = some o → Step P ops M kb (ln T 0) Z b0 j o (T j).σ (T j).m (T j).cr (T j).v (T (j + 1)).σ (T (j + 1)).m (T (j + 1)).cr := fun j o ho => by
    have := h4 j o (by rw [Array.getElem?_toList]; exact ho)
    rw [Nat.zero_add] at this
    unfold ln
    rw [h2]
    exact this
  have hl0 : ln T 0 = m.length := by unfold ln; rw [h2]
  have hb0' : b0 < ln T 0 := by rw [hl0]; exact Nat.blt_eq.mp hb0
  have hcb' : ∀ B, live (T 0).m b0 = some B → B.z ≠ mapZ ∧ B.cells.all (belB (ln T 0) 3) = true := fun B hB => by
    rw [h2] at hB
    rw [hB] at hcb
    rw [hl0]
    simpa using hcb
  have hlen : ops.toList.length = ops.size := by simp
  refine wpIn_mono (Q := NormalQ fun a' w' => Pt rd nt n0 F w0 μ a.defers Q .normal a' w') (wpIn_region_any hf (wpAny_in (fun ⟨_, _, h⟩ => h) (dstsOK_nd hd) _ _ _ _ (any_sound hstep (chkD_spec hc) (nt := nt) (F := F) (w0 := w0) (μ0 := μ) (l0 := a.defers) hd h3 hb0' hcb' (fun a' w' μ' hI => ?_) ops.size _ a _ μ (by simp) ?_ ?_))) (fun e a' w' hq => by cases e <;> first | exact hq | exact hq.elim)
  · have hle := ln_mono hstep (Nat.zero_le ops.size) (Nat.le_refl _)
    have hmono : ∀ j, j < ops.size → ln T (j + 1) ≤ ln T ops.size := fun j hj => ln_mono hstep (by omega) (Nat.le_refl _)
    have hdom : Dom μ' (ln T ops.size) := fun id hid => by
      cases hq : μ' id with
      | none => rfl
      | some L =>
        rcases hI.dom id (by rw [hq]; simp) with h | ⟨j, k1, k2, k3⟩
        · omega
        · have := hmono j k1; omega
    have hres : restr μ' (ln T ops.size) = μ' := by
      funext id
      unfold restr
      split
      · rfl
      · exact (hdom id (by omega)).symm
    refine ⟨F, w0, μ', σe, (T ops.size).m, by rw [hI.defers]; exact Reb.refl _ _ _ _, fun id hid => hI.ext id (by omega), ⟨hI.size, by rw [hI.defers]; exact hr.defers, fun t x hx => ?_, ?_, hdom⟩, by rw [hlen] at h6; exact h6⟩
    · have hx := h5 t x hx
      rw [hlen] at hx
      rcases hist hstep (Nat.le_refl _) t x hx with ⟨j, o, k1, k2, k3, rfl⟩ | ⟨k1, k2⟩
      · refine ⟨?_, (hI.s1 j o t k1 k2 k3).mono (fun id L h => by unfold restr at h; split at h; exact h; cases h)⟩
        rw [hI.size]
        exact dstsOK_spec hd o (by rw [← Array.getElem?_toList] at k2; exact List.mem_of_getElem? k2) t k3
      · have := hI.s0 t x (fun i o hi ho => k1 i o hi ho) k2
        exact ⟨by rw [hI.size]; exact this.1, this.2.mono (fun id L h => by unfold restr at h; split at h; exact h; cases h)⟩
    · rcases hI.mem with ⟨hA, hM⟩ | ⟨k, hB⟩
      · have hcls : ∀ id B, live (T ops.size).m id = some B → ∃ c, c ≤ ops.size ∧ Cls T (fun i => i < ops.size) c id ∧ live (T c).m id = some B := fun id B hB => by
          have hid : id < ln T ops.size := by
            rw [live_some] at hB
            exact (List.getElem?_eq_some_iff.1 hB).1
          have early : ∀ (c j : Nat) (o' : Oper), c ≤ j → j < ops.size → ops[j]? = some o' → touch o'.op = true → j < kb := fun c j o' _ h ho ht => hA j o' h ho ht
          rcases Nat.lt_or_ge id (ln T 0) with h | h
          · exact ⟨0, Nat.zero_le _, .inl ⟨rfl, h⟩, by rw [← live_pre hstep (Nat.zero_le _) (Nat.le_refl _) (early 0) h]; exact hB⟩
          · obtain ⟨j, k1, _, k3, k4⟩ := (made hstep (Nat.le_refl _) h3).2 id h hid
            exact ⟨j + 1, by omega, .inr ⟨j, rfl, k1, k3, k4⟩, by rw [← live_pre hstep (show j + 1 ≤ ops.size by omega) (Nat.le_refl _) (early _) k4]; exact hB⟩
        refine ⟨hM.fr.os, hM.fr.tape, hM.fr.output, hM.fr.size, hM.fr.frame, hM.fr.up, fun id B hB => ?_, fun id id' B B' L L' a1 a2 hne hl hl' => ?_⟩
        · obtain ⟨c, _, b2, b3⟩ := hcls id B hB
          obtain ⟨L, k1, k2, k3⟩ := hM.blk c id B b2 b3
          exact ⟨L, k1, k2.mono (fun id L h => by unfold restr at h; split at h; exact h; cases h), k3⟩
        · obtain ⟨c, _, b2, b3⟩ := hcls id B a1
          obtain ⟨c', _, b2', b3'⟩ := hcls id' B' a2
          exact hM.excl c c' id id' B B' L L' b2 b2' b3 b3' hne hl hl'
      · obtain ⟨o, ho, ht⟩ := hB.op
        have hks : k < ops.size := (Array.getElem?_eq_some_iff.1 ho).1
        have hlt := (chkD_spec hc).late
        have e : (T ops.size).m = (T (k + 1)).m := same_mem hstep (show k + 1 ≤ ops.size by omega) (Nat.le_refl _) fun j o' j1 j2 j3 => by
          cases ht' : touch o'.op with
          | false => rfl
          | true =>
            have hzj : Z.contains j = false := by
              cases h : Z.contains j with
              | false => rfl
              | true => have := hlt j h; have := hB.le; omega
            have := (hB.all j o' j3 ht' hzj).1 j2; omega
        have hrep := hB.rep
        have e2 : ln T (k + 1) = ln T ops.size := by unfold ln; rw [e]
        rw [e2, hres] at hrep
        rw [e]
        exact hrep
  · exact Nat.le_trans List.countP_le_length (by simp)
  · have hno : ∀ i, ¬ (Array.replicate ops.size false).getD i false = true := fun i h => by
      simp [Array.getD] at h
    have hdom0 : restr μ (ln T 0) = μ := by
      funext id
      unfold restr
      split
      · rfl
      · exact (hr.dom id (by omega)).symm
    refine ⟨fun i h => (hno i h).elim, fun i o h => (hno i h).elim, hr.nt, rfl, fun i o t h => (hno i h).elim, fun t x _ hx => ?_, fun id h => ?_, Ext.refl _ _, .inl ⟨fun k o h => (hno k h).elim, ?_⟩⟩
    · rw [h1] at hx
      rw [hdom0, ← hr.nt]
      exact hr.slots t x hx
    · left
      rcases Nat.lt_or_ge id (ln T 0) with h' | h'
      · exact h'
      · exact absurd (hr.dom id (by omega)) h
    · have hm := hr.mem.drew
      have hcl : ∀ c id, Cls T (fun i => (Array.replicate ops.size false).getD i false = true) c id → c = 0 := fun c id h => by
        rcases h with h | ⟨j, _, h, _⟩
        · exact h.1
        · exact (hno j h).elim
      refine ⟨⟨hm.os, hm.tape, hm.output, hm.size, hm.frame, hm.up⟩, fun c id B hc hB => ?_, fun c c' id id' B B' L L' hc hc' hB hB' => ?_⟩
      · have := hcl c id hc
        subst this
        rw [h2] at hB
        rw [hdom0]
        exact hm.blk id B hB
      · have e1 := hcl c id hc
        have e2 := hcl c' id' hc'
        subst e1 e2
        rw [h2] at hB hB'
        exact hm.excl id id' B B' L L' hB hB'
section
variable {Z : List Nat} {b0 : Nat} {P : Program} {ops : Array Oper} {M : List Nat} {kb base i : Nat} {l : List Oper} {σ : Slots} {m m' : Mem} {cr : List Nat} {K : Slots → Mem → Prop} {d : Option Tmp} {t : TypeId} {pp : String} {af : Array Edge}
theorem sd {op : Op} {v : Value} (k : RunD P ops M kb base Z b0 K (i + 1) l (put σ d v) m cr) (ht : touch op = false := by rfl)
    (h : OpOK P ⟨d, op, t, pp, af, none⟩ (ev σ) (holes m) v (holes m) := by first
      | (apply ok_move; rfl)
      | (apply ok_assign; rfl)
      | (apply ok_fieldAddr; rfl; rfl; infer_instance; rfl)
      | (apply ok_pick1; rfl; rfl)
      | (apply ok_pick0; rfl; rfl)
      | (apply ok_extract; rfl; rfl)
      | (apply ok_add64; rfl; rfl; omega)
      | (apply ok_sub64; rfl; rfl; omega)
      | (apply ok_mul64; rfl; rfl; omega)
      | (apply ok_lss; rfl; rfl)
      | (apply ok_leq; rfl; rfl)
      | (apply ok_gtr; rfl; rfl)
      | (apply ok_geq; rfl; rfl)
      | (apply ok_eql; rfl; rfl)
      | (apply ok_neq; rfl; rfl)
      | (apply ok_not_dec; rfl)
      | (apply ok_not; rfl)
      | (apply ok_str_eql; rfl; rfl)
      | (apply ok_str_neq; rfl; rfl)
      | (apply ok_len_str; rfl)
      | (apply ok_len_slice; rfl)
      | (apply ok_nilCheck; rfl)
      | (apply ok_nilCheck_func; rfl)
      | (apply ok_min; rfl; rfl)
      | (apply ok_max; rfl; rfl)
      | (apply ok_indexAddr_slice; rfl; rfl; omega)
      | (apply ok_indexAddr_array; rfl; rfl; omega)
      | (apply ok_str_index; rfl; rfl; omega)
      | (apply ok_conv_in; rfl; simp [IntKind.min, IntKind.signed, IntKind.bits] <;> omega; simp [IntKind.max, IntKind.signed, IntKind.bits] <;> omega)
      | (apply ok_quo64; rfl; rfl; omega)
      | (apply ok_rem_pos; rfl; rfl; omega)
      | (apply ok_and; rfl; rfl)
      | (apply ok_or; rfl; rfl)
      | (apply ok_xor; rfl; rfl)
      | (apply ok_andNot; rfl; rfl)
      | (apply ok_shl; rfl; rfl; omega)
      | (apply ok_shr; rfl; rfl; omega)
      | (apply ok_neg; rfl)
      | (apply ok_compl; rfl)
      | (apply ok_build; rfl; (focus ((repeat (first | apply BuildR.nil | (apply BuildR.cons; rfl; rfl; (focus first | ((repeat constructor); first | done | fail) | exact ListR.refl _); rfl; (focus ((repeat constructor); first | done | fail))))); first | done | fail)))
      | (apply ok_build_array; rfl; (focus ((repeat (first | apply BuildR.nil | (apply BuildR.cons; rfl; rfl; (focus first | ((repeat constructor); first | done | fail) | exact ListR.refl _); rfl; (focus ((repeat constructor); first | done | fail))))); first | done | fail)))
      | (apply ok_field; rfl; rfl; (first | exact PartR.one Ty.eq rfl (by ((repeat constructor); first | done | fail)) | exact PartR.agg Ty.eq rfl inferInstance (by ((repeat constructor); first | done | fail))))
      | (apply ok_index; rfl; rfl; omega; (first | exact PartR.one Ty.eq rfl (by ((repeat constructor); first | done | fail)) | exact PartR.agg Ty.eq rfl inferInstance (by ((repeat constructor); first | done | fail))))
      | (apply ok_bool_eql; rfl; rfl)
      | (apply ok_bool_neq; rfl; rfl)
      | (apply ok_agg_eql; rfl; rfl; (focus ((repeat (first | apply EqFs.nil | (apply EqFs.cons; (first | exact PartR.one Ty.eq rfl (by ((repeat constructor); first | done | fail)) | exact PartR.agg Ty.eq rfl inferInstance (by ((repeat constructor); first | done | fail))); (first | exact PartR.one Ty.eq rfl (by ((repeat constructor); first | done | fail)) | exact PartR.agg Ty.eq rfl inferInstance (by ((repeat constructor); first | done | fail))); (first | exact Or.inl (Eq0.int Ty.eq) | exact Or.inl (Eq0.bool Ty.eq) | exact Or.inl (Eq0.string Ty.eq))))); first | done | fail)))
      | (apply ok_agg_neq; rfl; rfl; (focus ((repeat (first | apply EqFs.nil | (apply EqFs.cons; (first | exact PartR.one Ty.eq rfl (by ((repeat constructor); first | done | fail)) | exact PartR.agg Ty.eq rfl inferInstance (by ((repeat constructor); first | done | fail))); (first | exact PartR.one Ty.eq rfl (by ((repeat constructor); first | done | fail)) | exact PartR.agg Ty.eq rfl inferInstance (by ((repeat constructor); first | done | fail))); (first | exact Or.inl (Eq0.int Ty.eq) | exact Or.inl (Eq0.bool Ty.eq) | exact Or.inl (Eq0.string Ty.eq))))); first | done | fail)))
      | (apply ok_ptr_eql; rfl; rfl)
      | (apply ok_ptr_neq; rfl; rfl)
      | (apply ok_slice_str; rfl; (focus first | exact BndR.none | (apply BndR.some; rfl; omega; first | done | fail)); (focus first | exact BndR.none | (apply BndR.some; rfl; omega; first | done | fail)); omega)
      | (apply ok_slice_slice; rfl; rfl; rfl; (focus first | exact BndR.none | (apply BndR.some; rfl; omega; first | done | fail)); (focus first | exact BndR.none | (apply BndR.some; rfl; omega; first | done | fail)); omega)
      | (apply ok_slice_nil; rfl; (focus first | exact BndR.none | (apply BndR.some; rfl; omega; first | done | fail)); (focus first | exact BndR.none | (apply BndR.some; rfl; omega; first | done | fail)))
      | (apply ok_slice_array; rfl; rfl; rfl; rfl; rfl; (first | exact Nat.le_of_ble_eq_true rfl | omega | (simp; first | done | fail) | (simp; omega)); (focus first | exact BndR.none | (apply BndR.some; rfl; omega; first | done | fail)); (focus first | exact BndR.none | (apply BndR.some; rfl; omega; first | done | fail)); omega; rfl)
      | (apply ok_add; rfl; rfl)
      | (apply ok_sub; rfl; rfl)
      | (apply ok_mul; rfl; rfl)
      | (apply ok_conv; rfl)
      | (apply ok_conv_str; rfl; rfl)
      | (apply ok_pick; rfl; rfl; rfl)) : RunD P ops M kb base Z b0 K i (⟨d, op, t, pp, af, none⟩ :: l) σ m cr := .pure (Sub.refl σ) rfl ht h k
theorem sdl {op : Op} {v : Value} (k : RunD P ops M kb base Z b0 K (i + 1) l (put σ d v) m cr) (ht : touch op = true := by rfl) (hi : Nat.blt i kb = true := by rfl) (hz : Z.contains i = false := by rfl)
    (h : OpOK P ⟨d, op, t, pp, af, none⟩ (ev σ) (vis base cr (fun j => (M.getD i 0).testBit j) m) v (vis base cr (fun j => (M.getD i 0).testBit j) m) := by first
      | (apply ok_load; rfl; rfl; rfl; (focus ((repeat constructor); first | done | fail)); rfl)
      | (apply ok_load_ints; rfl; rfl; rfl; ((try simp only [Nat.zero_add, Nat.mul_one]); rfl); (first | omega | (simp only [List.length_cons, List.length_nil, List.length_map, List.length_set, List.length_append]; omega) | (simp; omega)); rfl)
      | (apply ok_load_u8; rfl; rfl; rfl; ((try simp only [Nat.zero_add, Nat.mul_one]); rfl); (first | omega | (simp only [List.length_cons, List.length_nil, List.length_map, List.length_set, List.length_append]; omega) | (simp; omega)); rfl)
      | (apply ok_loadN; rfl; rfl; rfl; (focus ((repeat constructor); first | done | fail)); rfl)
      | (apply ok_bytes_str; rfl; rfl; (first | exact Nat.le_of_ble_eq_true rfl | omega | (simp; first | done | fail) | (simp; omega)); (first | exact TakeR.eq (by ((repeat constructor); first | done | fail)) | (apply take_full; first | rfl | (simp; first | done | fail) | (simp; omega)) | rfl); rfl)
      | (apply ok_nil_str; rfl)
      | (apply ok_append_none; rfl; rfl; (focus first | (apply Src.slc; rfl; exact Ty.eq; rfl; (first | exact Nat.le_of_ble_eq_true rfl | omega | (simp; first | done | fail) | (simp; omega)); (first | exact TakeR.eq (by ((repeat constructor); first | done | fail)) | (apply take_full; first | rfl | (simp; first | done | fail) | (simp; omega)) | rfl); (first | rfl | (simp; first | done | fail)); rfl; first | done | fail) | (apply Src.str; rfl; exact Ty.eq; rfl; rfl; first | done | fail) | (apply Src.nil; rfl; exact Ty.eq; first | done | fail)))
      | (apply ok_conv_in; rfl; simp [IntKind.min, IntKind.signed, IntKind.bits] <;> omega; simp [IntKind.max, IntKind.signed, IntKind.bits] <;> omega)
      | (apply ok_slice_str; rfl; (focus first | exact BndR.none | (apply BndR.some; rfl; omega; first | done | fail)); (focus first | exact BndR.none | (apply BndR.some; rfl; omega; first | done | fail)); omega)
      | (apply ok_slice_slice; rfl; rfl; rfl; (focus first | exact BndR.none | (apply BndR.some; rfl; omega; first | done | fail)); (focus first | exact BndR.none | (apply BndR.some; rfl; omega; first | done | fail)); omega)
      | (apply ok_slice_nil; rfl; (focus first | exact BndR.none | (apply BndR.some; rfl; omega; first | done | fail)); (focus first | exact BndR.none | (apply BndR.some; rfl; omega; first | done | fail)))
      | (apply ok_slice_array; rfl; rfl; rfl; rfl; rfl; (first | exact Nat.le_of_ble_eq_true rfl | omega | (simp; first | done | fail) | (simp; omega)); (focus first | exact BndR.none | (apply BndR.some; rfl; omega; first | done | fail)); (focus first | exact BndR.none | (apply BndR.some; rfl; omega; first | done | fail)); omega; rfl)
      | (apply ok_conv; rfl)
      | (apply ok_conv_str; rfl; rfl)) : RunD P ops M kb base Z b0 K i (⟨d, op, t, pp, af, none⟩ :: l) σ m cr :=
  .mem (m' := m) (V' := vis base cr (fun j => (M.getD i 0).testBit j) m) (Sub.refl σ) rfl hz (Nat.blt_eq.mp hi) ht h (extR_same _ _ (vis_len _ _ _ _)) (by simpa using k)
theorem sdm {op : Op} {v : Value} {V' : Mem} {n : Nat} (k : RunD P ops M kb base Z b0 K (i + 1) l (put σ d v) m' (cr ++ List.replicate n i)) (ht : touch op = true := by rfl) (hi : Nat.blt i kb = true := by rfl) (hz : Z.contains i = false := by rfl)
    (h : OpOK P ⟨d, op, t, pp, af, none⟩ (ev σ) (vis base cr (fun j => (M.getD i 0).testBit j) m) v V' := by first
      | (apply ok_box; rfl; (focus first | ((repeat constructor); first | done | fail) | exact ListR.refl _); (focus ((repeat constructor); first | done | fail)))
      | (apply ok_alloc; rfl; (focus ((repeat constructor); first | done | fail)))
      | (apply ok_buildSlice; rfl; rfl; rfl; rfl; rfl; (focus ((repeat (first | apply BuildR.nil | (apply BuildR.cons; rfl; rfl; (focus first | ((repeat constructor); first | done | fail) | exact ListR.refl _); rfl; (focus ((repeat constructor); first | done | fail))))); first | done | fail)); (focus ((repeat constructor); first | done | fail)); rfl)
      | (apply ok_makeSlice; rfl; rfl; rfl; omega; (focus ((repeat constructor); first | done | fail)))
      | (apply ok_append_nil; rfl; rfl; rfl; (focus first | (apply Src.slc; rfl; exact Ty.eq; rfl; (first | exact Nat.le_of_ble_eq_true rfl | omega | (simp; first | done | fail) | (simp; omega)); (first | exact TakeR.eq (by ((repeat constructor); first | done | fail)) | (apply take_full; first | rfl | (simp; first | done | fail) | (simp; omega)) | rfl); (first | rfl | (simp; first | done | fail)); rfl; first | done | fail) | (apply Src.str; rfl; exact Ty.eq; rfl; rfl; first | done | fail) | (apply Src.nil; rfl; exact Ty.eq; first | done | fail)); omega; omega; (focus ((repeat constructor); first | done | fail)); rfl))
    (hx : ExtR (vis base cr (fun j => (M.getD i 0).testBit j) m) V' m m' := by repeat constructor) (hn : m'.length - m.length = n := by rfl) : RunD P ops M kb base Z b0 K i (⟨d, op, t, pp, af, none⟩ :: l) σ m cr :=
  .mem (Sub.refl σ) rfl hz (Nat.blt_eq.mp hi) ht h hx (by rw [hn]; exact k)
theorem sdb {op : Op} {v : Value} {n : Nat} (k : RunD P ops M kb base Z b0 K (i + 1) l (put σ d v) m' (cr ++ List.replicate n i)) (ht : touch op = true := by rfl) (hi : Nat.ble kb i = true := by rfl)
    (h : OpOK P ⟨d, op, t, pp, af, none⟩ (ev σ) m v m' := by first
      | (apply ok_storeN; rfl; rfl; (focus first | ((repeat constructor); first | done | fail) | exact ListR.refl _); rfl; rfl; rfl; rfl; (focus first | ((repeat constructor); first | done | fail) | (apply splice_ints; ((try simp only [Nat.zero_add, Nat.mul_one]); rfl); (first | omega | (simp only [List.length_cons, List.length_nil, List.length_map, List.length_set, List.length_append]; omega) | (simp; omega)); first | done | fail)); (focus ((repeat constructor); first | done | fail)); rfl)
      | (apply ok_append; rfl; rfl; rfl; rfl; rfl; rfl; (focus first | (apply Src.slc; rfl; exact Ty.eq; rfl; (first | exact Nat.le_of_ble_eq_true rfl | omega | (simp; first | done | fail) | (simp; omega)); (first | exact TakeR.eq (by ((repeat constructor); first | done | fail)) | (apply take_full; first | rfl | (simp; first | done | fail) | (simp; omega)) | rfl); (first | rfl | (simp; first | done | fail)); rfl; first | done | fail) | (apply Src.str; rfl; exact Ty.eq; rfl; rfl; first | done | fail) | (apply Src.nil; rfl; exact Ty.eq; first | done | fail)); (first | exact Nat.le_of_ble_eq_true rfl | omega | (simp; first | done | fail) | (simp; omega)); (first | exact TakeR.eq (by ((repeat constructor); first | done | fail)) | (apply take_full; first | rfl | (simp; first | done | fail) | (simp; omega)) | rfl); rfl; omega; (focus ((repeat constructor); first | done | fail)); rfl)
      | (apply ok_copy; rfl; rfl; rfl; (focus first | (apply Src.slc; rfl; exact Ty.eq; rfl; (first | exact Nat.le_of_ble_eq_true rfl | omega | (simp; first | done | fail) | (simp; omega)); (first | exact TakeR.eq (by ((repeat constructor); first | done | fail)) | (apply take_full; first | rfl | (simp; first | done | fail) | (simp; omega)) | rfl); (first | rfl | (simp; first | done | fail)); rfl; first | done | fail) | (apply Src.str; rfl; exact Ty.eq; rfl; rfl; first | done | fail) | (apply Src.nil; rfl; exact Ty.eq; first | done | fail)); omega; (first | exact Nat.le_of_ble_eq_true rfl | omega | (simp; first | done | fail) | (simp; omega)); rfl; (focus ((repeat constructor); first | done | fail)); rfl)
      | (apply ok_box; rfl; (focus first | ((repeat constructor); first | done | fail) | exact ListR.refl _); (focus ((repeat constructor); first | done | fail)))
      | (apply ok_alloc; rfl; (focus ((repeat constructor); first | done | fail)))
      | (apply ok_buildSlice; rfl; rfl; rfl; rfl; rfl; (focus ((repeat (first | apply BuildR.nil | (apply BuildR.cons; rfl; rfl; (focus first | ((repeat constructor); first | done | fail) | exact ListR.refl _); rfl; (focus ((repeat constructor); first | done | fail))))); first | done | fail)); (focus ((repeat constructor); first | done | fail)); rfl)
      | (apply ok_makeSlice; rfl; rfl; rfl; omega; (focus ((repeat constructor); first | done | fail)))
      | (apply ok_append_nil; rfl; rfl; rfl; (focus first | (apply Src.slc; rfl; exact Ty.eq; rfl; (first | exact Nat.le_of_ble_eq_true rfl | omega | (simp; first | done | fail) | (simp; omega)); (first | exact TakeR.eq (by ((repeat constructor); first | done | fail)) | (apply take_full; first | rfl | (simp; first | done | fail) | (simp; omega)) | rfl); (first | rfl | (simp; first | done | fail)); rfl; first | done | fail) | (apply Src.str; rfl; exact Ty.eq; rfl; rfl; first | done | fail) | (apply Src.nil; rfl; exact Ty.eq; first | done | fail)); omega; omega; (focus ((repeat constructor); first | done | fail)); rfl)
      | (apply ok_load; rfl; rfl; rfl; (focus ((repeat constructor); first | done | fail)); rfl)
      | (apply ok_load_ints; rfl; rfl; rfl; ((try simp only [Nat.zero_add, Nat.mul_one]); rfl); (first | omega | (simp only [List.length_cons, List.length_nil, List.length_map, List.length_set, List.length_append]; omega) | (simp; omega)); rfl)
      | (apply ok_load_u8; rfl; rfl; rfl; ((try simp only [Nat.zero_add, Nat.mul_one]); rfl); (first | omega | (simp only [List.length_cons, List.length_nil, List.length_map, List.length_set, List.length_append]; omega) | (simp; omega)); rfl)
      | (apply ok_loadN; rfl; rfl; rfl; (focus ((repeat constructor); first | done | fail)); rfl)
      | (apply ok_bytes_str; rfl; rfl; (first | exact Nat.le_of_ble_eq_true rfl | omega | (simp; first | done | fail) | (simp; omega)); (first | exact TakeR.eq (by ((repeat constructor); first | done | fail)) | (apply take_full; first | rfl | (simp; first | done | fail) | (simp; omega)) | rfl); rfl)
      | (apply ok_nil_str; rfl)
      | (apply ok_append_none; rfl; rfl; (focus first | (apply Src.slc; rfl; exact Ty.eq; rfl; (first | exact Nat.le_of_ble_eq_true rfl | omega | (simp; first | done | fail) | (simp; omega)); (first | exact TakeR.eq (by ((repeat constructor); first | done | fail)) | (apply take_full; first | rfl | (simp; first | done | fail) | (simp; omega)) | rfl); (first | rfl | (simp; first | done | fail)); rfl; first | done | fail) | (apply Src.str; rfl; exact Ty.eq; rfl; rfl; first | done | fail) | (apply Src.nil; rfl; exact Ty.eq; first | done | fail))))
    (hl : m.length ≤ m'.length := by exact Nat.le_of_ble_eq_true rfl) (hn : m'.length - m.length = n := by rfl) (hlb : live m' b0 = live m b0 := by rfl) : RunD P ops M kb base Z b0 K i (⟨d, op, t, pp, af, none⟩ :: l) σ m cr :=
  .bar (Sub.refl σ) rfl hlb (Nat.le_of_ble_eq_true hi) ht h hl (by rw [hn]; exact k)
theorem sdNR {fx : Operand} {xs : Array Operand} {at_ : Array TypeId} {f : FuncId} [FnI P f] {a1 a2 : Array Value} {vs args : List Value} {r r' : Value} {mc mc' N : Mem} (gl : List Nat) (nc : Nat) (hc : ACalls P f args mc r mc') (k : RunD P ops M kb base Z b0 K (i + 1) l (put σ d r') (m ++ N) (cr ++ List.replicate nc i))
    (hi : Nat.blt i kb = true := by rfl) (hz : Z.contains i = false := by rfl) (hf : ev σ fx = some (.func (.func f) a1 a2) := by rfl) (hxs : ArgsR (ev σ) xs.toList vs := by ((repeat (apply ArgsR.cons; rfl)); exact ArgsR.nil))
    (hargs : WkL (a1.toList ++ vs ++ a2.toList) (renL (gOf gl ((vis base cr (fun j => (M.getD i 0).testBit j) m).length - mc.length)) args) := by (first | exact WkL.refl _ | exact WkL.ofEq (renL_map (fun _ => rfl) _).symm | exact WkL.ofEq (renL_flat _).symm | (focus ((repeat (first | exact WkL.nil | (apply WkL.cons; (first | exact Wk.refl _ | exact Wk.nil | (apply Wk.aggL; (repeat (first | exact WkL.nil | (apply WkL.cons; (first | exact Wk.refl _ | exact Wk.nil)))); first | done | fail))))); first | done | fail))))
    (hsub : SubM (gOf gl ((vis base cr (fun j => (M.getD i 0).testBit j) m).length - mc.length)) (vis base cr (fun j => (M.getD i 0).testBit j) m) gl mc := by ((repeat (first | exact SubM.nil | (apply SubM.rw; rfl; (first | exact WkL.refl _ | exact WkL.ofEq (renL_map (fun _ => rfl) _).symm | exact WkL.ofEq (renL_flat _).symm | (refine WkL.ofEq (subl_id ?_); constructor; first | done | fail) | (focus ((repeat (first | exact WkL.nil | (apply WkL.cons; (first | exact Wk.refl _ | exact Wk.nil | (apply Wk.aggL; (repeat (first | exact WkL.nil | (apply WkL.cons; (first | exact Wk.refl _ | exact Wk.nil)))); first | done | fail))))); first | done | fail)))) | (apply SubM.ro; rfl; (first | exact WkL.refl _ | exact WkL.ofEq (renL_map (fun _ => rfl) _).symm | exact WkL.ofEq (renL_flat _).symm | (refine WkL.ofEq (subl_id ?_); constructor; first | done | fail) | (focus ((repeat (first | exact WkL.nil | (apply WkL.cons; (first | exact Wk.refl _ | exact Wk.nil | (apply Wk.aggL; (repeat (first | exact WkL.nil | (apply WkL.cons; (first | exact Wk.refl _ | exact Wk.nil)))); first | done | fail))))); first | done | fail)))) | apply SubM.hole)); first | done | fail))
    (hgl : Nat.ble mc.length (vis base cr (fun j => (M.getD i 0).testBit j) m).length = true := by rfl) (hin : gl.all (fun j => Nat.blt j (vis base cr (fun j => (M.getD i 0).testBit j) m).length) = true := by rfl) (hle : Nat.ble mc.length mc'.length = true := by rfl)
    (hro : (mc.all fun b => !rwB b) = true := by rfl) (hnc : Nat.beq (mc'.length - mc.length) nc = true := by rfl)
    (hr : NV (ren (gOf gl ((vis base cr (fun j => (M.getD i 0).testBit j) m).length - mc.length)) r) r' := by constructor) (hN : NM ((mc'.drop mc.length).map (image (gOf gl ((vis base cr (fun j => (M.getD i 0).testBit j) m).length - mc.length)))) N := by repeat constructor)
    (hrw : (N.all fun b => match b with | some B => B.rw | none => true) = true := by rfl) : RunD P ops M kb base Z b0 K i (⟨d, .call ⟨.value fx, xs, at_⟩, t, pp, af, none⟩ :: l) σ m cr := by
  have hnd : ndB gl mc = true := by
    unfold ndB
    rw [List.all_eq_true]
    rintro ⟨b, j⟩ hb
    have hb' : b ∈ mc := (List.mem_zipIdx' hb).2 ▸ List.getElem_mem _
    have := List.all_eq_true.1 hro b hb'
    simp [this]
  have h := ok_callM (P := P) (ρ := ev σ) (m := vis base cr (fun j => (M.getD i 0).testBit j) m) (d := d) (t := t) (pp := pp) (af := af) (g := none) (at_ := at_) gl hc hf hxs hargs hgl hsub hnd (fun j hj => Nat.blt_eq.mp (List.all_eq_true.1 hin j hj)) hle
  have hb : backL (gOf gl ((vis base cr (fun j => (M.getD i 0).testBit j) m).length - mc.length)) gl mc mc' (vis base cr (fun j => (M.getD i 0).testBit j) m) = vis base cr (fun j => (M.getD i 0).testBit j) m ++ N := by rw [← hN.eq]; exact backFrom_roN hro 0 _
  rw [hb, hr.eq] at h
  have hl : (m ++ N).length - m.length = nc := by
    rw [← Nat.eq_of_beq_eq_true hnc, ← hN.eq]; simp
  exact .mem (Sub.refl σ) rfl hz (Nat.blt_eq.mp hi) rfl h (extR_new _ _ N (vis_len _ _ _ _) hrw) (by rw [hl]; exact k)
theorem late {op : Op} {v : Value} (k : RunD P ops M kb base Z b0 K (i + 1) l (put σ d v) m cr) (ht : touch op = true := by rfl) (hz : Z.contains i = true := by rfl)
    (h : OpOK P ⟨d, op, t, pp, af, none⟩ (ev σ) (only b0 m) v (only b0 m) := by (apply ok_loadN; rfl; rfl; rfl; (focus ((repeat constructor); first | done | fail)); rfl)) : RunD P ops M kb base Z b0 K i (⟨d, op, t, pp, af, none⟩ :: l) σ m cr :=
  .late (Sub.refl σ) rfl hz ht h k
theorem nil (h : K σ m) : RunD P ops M kb base Z b0 K i [] σ m cr := .nil (Sub.refl σ) h
end
theorem aw_region_lC {P : Program} {nt n0 : Nat} {Q : Exit → Slots → Mem → Prop} {σ : Slots} {m : Mem} {id nb : Nat} {ops : Array Oper} (M : List Nat) (kb : Nat) (Z : List Nat) (b0 : Nat) (hb : LenR m nb) (hf : P.follows .mixedOrders = true) (hc : chkD ops M kb Z = true) (hd : dstsOK nt ops = true) (hn : Nat.ble n0 nb = true) (hb0 : Nat.blt b0 nb = true) (hcb : (match live m b0 with | some B => B.z != mapZ && B.cells.all (belB nb 3) | none => true) = true)
    (h : RunD P ops M kb nb Z b0 (fun σ' m' => Q .normal σ' m') 0 ops.toList σ m []) : AW P nt n0 (.region id ops true) Q σ m := by
  have e := hb.eq
  subst e
  exact aw_region_l M kb Z b0 hf hc hd (Nat.le_of_ble_eq_true hn) hb0 hcb h
end Go.Proofs.YtjofcjogbopkjaaGreat.Av.Lat
