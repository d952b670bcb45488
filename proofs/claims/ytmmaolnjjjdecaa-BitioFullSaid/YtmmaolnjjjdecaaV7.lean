/- Walking in numbers of one's own: slices cut, made, added to; bytes and strings. -/
import Derived.Test.YtmmaolnjjjdecaaV6
import Derived.Laws.AppendOwn
set_option linter.unusedVariables false
set_option linter.unusedSimpArgs false
namespace Go.Proofs.Ytmmaolnjjjdecaa.Av
def u8v (b : UInt8) : Value := .int .u8 b.toNat
theorem ok_load_u8 {P : Program} {ρ : Operand → Option Value} {m : Mem} {d : Option Tmp} {t : TypeId} {pp : String} {af : Array Edge} {g : Option (Nat × Bool)} {t' : TypeId} {l : List UInt8} {r : Bool} {z : Nat} {x : Operand} {id o j : Nat} {D} [Ty P t' D] (hx : ρ x = some (.pointer (some ⟨id, o, none⟩))) (hB : live m id = some ⟨l.map u8v, r, z⟩) (hD : aggD D = false) (hj : o = j) (hi : j < l.length) :
    OpOK P ⟨d, .load t' x, t, pp, af, g⟩ ρ m (.int .u8 (l.getD j 0).toNat) m := ok_load_map hx hB hD hj hi
inductive BndR (ρ : Operand → Option Value) : Option Operand → Nat → Nat → Prop
  | none {n} : BndR ρ none n n
  | some {x k i n} : ρ x = some (.int k i) → 0 ≤ i → BndR ρ (some x) n i.toNat
section
variable {P : Program} {ρ : Operand → Option Value} {m : Mem} {d : Option Tmp} {t : TypeId} {pp : String} {af : Array Edge} {g : Option (Nat × Bool)}
theorem run_bounds {isS : Bool} {len cap l h : Nat} {lo hi : Option Operand} {A : Act} {μ : Mu} (hl : BndR ρ lo 0 l) (hh : BndR ρ hi len h) (h1 : l ≤ h) (h2 : h ≤ cap) (ho : ∀ x u, (lo = some x ∨ hi = some x) → ρ x = some u → VR μ u (A.eval x)) (w : World) :
    (Instr.sliceBounds isS len cap (lo.map A.eval) (hi.map A.eval) none).run P w = .ok (l, h, cap) w := by
  cases hl with
  | none =>
    cases hh with
    | none => simp [Instr.sliceBounds]
    | some hx hi0 =>
      rename_i x k i
      have e := (ho x _ (.inr rfl) hx).int'
      have : i ≤ (cap : Int) := by omega
      simp [Instr.sliceBounds, Instr.sliceBound, e, asIntOf, hi0, this]
  | some hx hi0 =>
    rename_i x k i
    have e := (ho x _ (.inl rfl) hx).int'
    cases hh with
    | none =>
      have : i ≤ (len : Int) := by omega
      simp [Instr.sliceBounds, Instr.sliceBound, e, asIntOf, hi0, this]
    | some hy hj0 =>
      rename_i y k' j
      have e' := (ho y _ (.inr rfl) hy).int'
      have h3 : j ≤ (cap : Int) := by omega
      have h4 : i ≤ j := by omega
      simp [Instr.sliceBounds, Instr.sliceBound, e, e', asIntOf, hi0, hj0, h3]
      intro hh
      exfalso
      omega
theorem mem_bnd {xt : TypeId} {x : Operand} {lo hi : Option Operand} {μ : Mu} {A : Act} (ho : ∀ y u, y ∈ (Op.slice xt x lo hi none).operands → ρ y = some u → VR μ u (A.eval y)) : ∀ y u, (lo = some y ∨ hi = some y) → ρ y = some u → VR μ u (A.eval y) := fun y u h hu =>
  ho y u (by simp only [Op.operands]; rcases h with rfl | rfl <;> simp) hu
theorem ok_slice_str {xt : TypeId} {x : Operand} {lo hi : Option Operand} {s : ByteArray} {l h : Nat} [Ty P xt .string] (hx : ρ x = some (.string s)) (hl : BndR ρ lo 0 l) (hh : BndR ρ hi s.size h) (h1 : l ≤ h ∧ h ≤ s.size) :
    OpOK P ⟨d, .slice xt x lo hi none, t, pp, af, g⟩ ρ m (.string (s.extract l h)) m := .val fun _ _ μ A w _ _ ho => by
  have e := (ho x _ (by simp [Op.operands]) hx).string'
  have hb := run_bounds (P := P) (isS := false) (A := A) (μ := μ) hl hh h1.1 h1.2 (mem_bnd ho) w
  exact ⟨_, by simp [execOp, Instr.sliceAt, Instr.slice, run_und (Ty.eq (P := P) (t := xt)), e, hb], .string _⟩
theorem ok_slice_slice {xt : TypeId} {x : Operand} {lo hi : Option Operand} {id o n c l h : Nat} {e : TypeId} {sz b : Nat} {z} {B : Blk} [Ty P xt (.slice e)] [TyI P e sz b z] (hx : ρ x = some (.slice (some ⟨id, o, none⟩) n c)) (hB : live m id = some B) (hz : Nat.beq B.z sz = true)
    (hl : BndR ρ lo 0 l) (hh : BndR ρ hi n h) (h1 : l ≤ h ∧ h ≤ n) :
    OpOK P ⟨d, .slice xt x lo hi none, t, pp, af, g⟩ ρ m (.slice (some ⟨id, o + l * sz, none⟩) (h - l) (h - l)) m := .val fun _ _ μ A w _ hm ho => by
  have hv := ho x _ (by simp [Op.operands]) hx
  obtain ⟨ti, _, k1, k2, _⟩ := TyI.ex (P := P) (t := e)
  generalize hX : A.eval x = X at hv
  obtain ⟨LB, q1, q2, _⟩ := hm.blk id B hB
  cases hv with
  | slc hL hc hb hof hr =>
    rename_i cap b' off L
    rw [q1] at hL; cases hL
    have hzz : LB.z = sz := q2.z.trans (Nat.eq_of_beq_eq_true hz)
    have hbd := run_bounds (P := P) (isS := true) (A := A) (μ := μ) hl hh h1.1 (show h ≤ cap by omega) (mem_bnd ho) w
    refine ⟨.slice (some (if cap = l then ⟨b', off, none⟩ else ⟨b', off + l * sz, none⟩)) (h - l) (cap - l), ?_, ?_⟩
    · simp only [execOp, hX, Instr.sliceAt, Instr.slice, Sem.run_bind, run_und (Ty.eq (P := P) (t := xt)), Result.andThen_ok, Option.map_none, hbd, run_size k1, k2, Sem.run_pure]
      split <;> simp [*, add_off]
    · by_cases hcl : cap = l
      · rw [if_pos hcl]
        exact .slc q1 (by omega) (fun hh => hb (hh.imp (fun h => by omega) fun h => h)) (fun h => by omega) (fun hrw => by have := hr hrw; rw [show cap - l = 0 by omega]; omega)
      · rw [if_neg hcl]
        refine .slc q1 (by omega) (fun hh => hb (hh.imp (fun h => by omega) fun h => h)) (fun h => by have := hof (by omega); omega) (fun hrw => ?_)
        have := hr hrw
        rw [hzz] at this ⊢
        have e1 : l * sz + (cap - l) * sz = cap * sz := by rw [← Nat.add_mul]; congr 1; omega
        omega
  | slcNil =>
    obtain rfl : h = 0 := by omega
    obtain rfl : l = 0 := by omega
    have hbd := run_bounds (P := P) (isS := true) (A := A) (μ := μ) hl hh (Nat.le_refl 0) (Nat.le_refl 0) (mem_bnd ho) w
    exact ⟨.slice none 0 0, by simp [execOp, hX, Instr.sliceAt, Instr.slice, run_und (Ty.eq (P := P) (t := xt)), hbd, run_size k1], .slcNil⟩
theorem ok_slice_nil {xt : TypeId} {x : Operand} {lo hi : Option Operand} {e : TypeId} {sz b : Nat} {z} [Ty P xt (.slice e)] [TyI P e sz b z] (hx : ρ x = some (.slice none 0 0)) (hl : BndR ρ lo 0 0) (hh : BndR ρ hi 0 0) :
    OpOK P ⟨d, .slice xt x lo hi none, t, pp, af, g⟩ ρ m (.slice none 0 0) m := .val fun _ _ μ A w _ hm ho => by
  have hv := ho x _ (by simp [Op.operands]) hx
  obtain ⟨ti, _, k1, k2, _⟩ := TyI.ex (P := P) (t := e)
  generalize hX : A.eval x = X at hv
  cases hv
  have hbd := run_bounds (P := P) (isS := true) (A := A) (μ := μ) hl hh (Nat.le_refl 0) (Nat.le_refl 0) (mem_bnd ho) w
  exact ⟨.slice none 0 0, by simp [execOp, hX, Instr.sliceAt, Instr.slice, run_und (Ty.eq (P := P) (t := xt)), hbd, run_size k1], .snil⟩
/-- A part of an array, by its address. -/
theorem ok_slice_array {xt : TypeId} {x : Operand} {lo hi : Option Operand} {id o n l h : Nat} {e : TypeId} {sz b : Nat} {z} {B : Blk} [Ty P xt (.array n e)] [TyI P e sz b z] (hx : ρ x = some (.pointer (some ⟨id, o, none⟩))) (hB : live m id = some B) (hz : Nat.beq B.z sz = true) (hsz : Nat.blt 0 sz = true) (hn : Nat.blt 0 n = true)
    (hfit : o + n * sz ≤ B.cells.length) (hl : BndR ρ lo 0 l) (hh : BndR ρ hi n h) (h1 : l ≤ h ∧ h ≤ n) :
    OpOK P ⟨d, .slice xt x lo hi none, t, pp, af, g⟩ ρ m (.slice (some ⟨id, o + l * sz, none⟩) (h - l) (h - l)) m := .val fun _ _ μ A w _ hm ho => by
  obtain ⟨L, hL, hX⟩ := (ho x _ (by simp [Op.operands]) hx).ptr'
  obtain ⟨ti, _, k1, k2, _⟩ := TyI.ex (P := P) (t := e)
  obtain ⟨LB, q1, q2, _⟩ := hm.blk id B hB
  rw [hL] at q1; cases q1
  have hzz : L.z = sz := q2.z.trans (Nat.eq_of_beq_eq_true hz)
  have hsz := Nat.blt_eq.mp hsz
  have hn := Nat.blt_eq.mp hn
  have hpos : 0 < n * sz := Nat.mul_pos hn hsz
  have hN : L.rw = true → L.o + (o + n * sz) ≤ L.N := fun hrw => by
    obtain ⟨c, _, _, _, r1, r2, _⟩ := q2.row hrw (.inr (by intro h; rw [h] at hfit; simp at hfit; omega))
    obtain ⟨y, y1, _⟩ := q2.cells (o + n * sz - 1) B.cells[o + n * sz - 1] (List.getElem?_eq_getElem (by omega))
    simp only [World.cell?, r1] at y1
    have : L.o + (o + n * sz - 1) < c.size := by
      rcases Nat.lt_or_ge (L.o + (o + n * sz - 1)) c.size with h' | h'
      · exact h'
      · simp [Array.getElem?_eq_none h'] at y1
    omega
  have hbd := run_bounds (P := P) (isS := false) (A := A) (μ := μ) hl hh h1.1 h1.2 (mem_bnd ho) w
  refine ⟨.slice (some (if n = l then ⟨L.b, L.o + o, none⟩ else ⟨L.b, L.o + o + l * sz, none⟩)) (h - l) (n - l), ?_, ?_⟩
  · simp only [execOp, hX, Instr.sliceAt, Instr.sureAddr, Sem.run_bind, run_und (Ty.eq (P := P) (t := xt)), Result.andThen_ok, Option.map_none, hbd, run_size k1, k2, Sem.run_pure]
    split <;> simp [*, add_off]
  · by_cases hcl : n = l
    · rw [if_pos hcl]
      exact .slc hL (by omega) (fun _ => rfl) (fun h => by omega) (fun hrw => by have := hN hrw; rw [show n - l = 0 by omega]; omega)
    · rw [if_neg hcl]
      refine .slc hL (by omega) (fun _ => rfl) (fun h => by omega) (fun hrw => ?_)
      have := hN hrw
      rw [hzz]
      have e1 : l * sz + (n - l) * sz = n * sz := by rw [← Nat.add_mul]; congr 1; omega
      omega
/-- make, of elements of one cell. -/
theorem ok_makeSlice {t' e : TypeId} {x y : Operand} {k1 k2 : IntKind} {a c : Int} {b : Nat} {z : Value} {m' : Mem} {k : Nat} [Ty P t' (.slice e)] [TyI P e 1 b [z]] (hp : plain 2 z = true) (hx : ρ x = some (.int k1 a)) (hy : ρ y = some (.int k2 c)) (h : 0 ≤ a ∧ a ≤ c ∧ b * c ≤ 140737488355328 ∧ c ≤ 140737488355328)
    (hm' : AppR (some ⟨List.replicate c.toNat z, true, 1⟩) m m' k) : OpOK P ⟨d, .makeSlice t' x y, t, pp, af, g⟩ ρ m (.slice (some ⟨k, 0, none⟩) a.toNat a.toNat) m' := .gen fun F w0 μ A w hd hm ho => by
  obtain ⟨rfl, rfl⟩ := hm'.spec
  obtain ⟨h1, h2, h3, h4⟩ := h
  have e1 := (ho x _ (by simp [Op.operands]) hx).int'
  have e2 := (ho y _ (by simp [Op.operands]) hy).int'
  obtain ⟨ti, v, i1, i2, i3, i4, i5⟩ := TyI.ex (P := P) (t := e)
  have w1 : IntKind.i64.wrap a = a := wrap64 (by omega)
  have w2 : IntKind.i64.wrap c = c := wrap64 (by omega)
  have hnt : ¬ (c < 0) := by omega
  have hb : ¬ ((ti.bytes : Int) * c > 2 ^ 48) := by rw [i3]; omega
  refine ⟨.slice (some ⟨w.heap.size, 0, none⟩) a.toNat c.toNat, w.alloc (.cells (Array.replicate c.toNat z) e (0, 0)), _, ?_, Mu.set_ext, by simpa using Mu.set_dom hd,
    hm.alloc (e := e) (z := 1) (lo := 0) (hi := 0) (cs := List.replicate c.toNat z) (c := Array.replicate c.toNat z) hd (fun j u hu => ?_) (fun j _ => by omega),
    .slc (L := ⟨w.heap.size, 0, (Array.replicate c.toNat z).size, 1, true⟩) Mu.set_same (by omega) (fun _ => rfl) (fun _ => rfl) (fun _ => by simp)⟩
  · have hz : ∀ zz : Array Value, (c.toNat ≠ 0 → zz = #[z]) → (Array.range c.toNat).map (fun i => zz[i % zz.size]!) = Array.replicate c.toNat z := fun zz hzz => by
      apply Array.ext (by simp)
      intro i hi1 hi2
      have : c.toNat ≠ 0 := by simp at hi1; omega
      simp [hzz this, Nat.mod_one]
    simp only [execOp, Instr.makeSlice, Sem.run_bind, run_und (Ty.eq (P := P) (t := t')), Result.andThen_ok, e1, e2, asInt, asIntOf, Sem.run_pure, run_info i1, w1, w2]
    have hcond : ((decide (c < 0) || decide ((ti.bytes : Int) * c > 2 ^ 48)) || decide (a < 0) || decide (a > c)) = false := by
      simp only [decide_eq_false hnt, decide_eq_false hb, Bool.false_or]
      rw [decide_eq_false (by omega), decide_eq_false (by omega)]; rfl
    simp only [hcond, Bool.false_eq_true, if_false, Sem.run_bind, Result.andThen_ok, run_askRoom, run_size i1, i2, Nat.mul_one]
    by_cases hc0 : c.toNat = 0
    · simp only [hc0, if_true, Sem.run_bind, Sem.run_pure, Result.andThen_ok]
      simp [newRow, show Array.range 0 = #[] from rfl]
    · simp only [hc0, if_false, Sem.run_bind, Sem.run_pure, Result.andThen_ok, run_zero i1 i4]
      rw [hz v.cells (fun _ => by rw [i5])]
      simp [newRow]
  · rw [List.getElem?_replicate] at hu
    split at hu
    · rename_i hj
      cases hu
      exact ⟨z, by simp [hj], plain_refl _ 2 z hp⟩
    · cases hu
/-! ### append, copy -/
/-- What append and copy take: a slice's elements, or a string's bytes. -/
inductive Src (P : Program) (ρ : Operand → Option Value) (m : Mem) (x : Operand) (xt : TypeId) (sz : Nat) : Nat → List Value → Prop
  | slc {id o k c e B xs} : ρ x = some (.slice (some ⟨id, o, none⟩) k c) → P.underlying xt = some (.slice e) → live m id = some B → o + k * sz ≤ B.cells.length → (B.cells.drop o).take (k * sz) = xs → xs.all (·.oneCell') = true → Src P ρ m x xt sz k xs
  | nil {e} : ρ x = some (.slice none 0 0) → P.underlying xt = some (.slice e) → Src P ρ m x xt sz 0 []
  | str {s xs} : ρ x = some (.string s) → P.underlying xt = some .string → sz = 1 → s.data.toList.map u8v = xs → Src P ρ m x xt sz s.size xs
theorem all_vr {μ : Mu} {xs ys : List Value} (h : xs.all (·.oneCell') = true) (hl : xs.length = ys.length) (hv : ∀ (j : Nat) x y, xs[j]? = some x → ys[j]? = some y → VR μ x y) : ∀ y ∈ ys, y.oneCell' = true := fun y hy => by
  obtain ⟨j, hj⟩ := List.mem_iff_getElem?.1 hy
  have hlt : j < xs.length := by rw [hl]; exact (List.getElem?_eq_some_iff.1 hj).1
  rw [(hv j _ y (List.getElem?_eq_getElem hlt) hj).oneCell]
  exact List.all_eq_true.1 h _ (List.getElem_mem _)
/-- The source's elements, read. -/
theorem Src.run {x : Operand} {xt : TypeId} {sz k : Nat} {xs : List Value} (h : Src P ρ m x xt sz k xs) (hsz : 0 < sz) {F w0 μ w} {A : Act} (hm : RepM F w0 μ m w) (ho : ∀ u, ρ x = some u → VR μ u (A.eval x)) :
    (Builtin.lenOf (A.eval x)).run P w = .ok k w ∧ (∃ D, P.underlying xt = some D ∧ (D = .string ∨ ∃ e, D = .slice e)) ∧ xs.length = k * sz ∧ ∃ ys : List Value, ys.length = k * sz ∧ (∀ (j : Nat) u v, xs[j]? = some u → ys[j]? = some v → VR μ u v) ∧ (∀ y ∈ ys, y.oneCell' = true) ∧
      (∀ n, n ≤ k → (Builtin.firstCells sz n (A.eval x)).run P w = .ok (ys.take (n * sz)).toArray w) ∧
      ∀ w', w.heap.size ≤ w'.heap.size → (∀ b, b < w.heap.size → w'.heap[b]? = w.heap[b]?) → (Builtin.firstCells sz k (A.eval x)).run P w' = .ok ys.toArray w' := by
  cases h with
  | slc hx hu hB hfit hxs h1 =>
    rename_i id o c e B
    have hv := ho _ hx
    generalize hX : A.eval x = X at hv
    cases hv with
    | slc hL hc hb hof hr =>
      rename_i cap b off L
      have hcells := hm.cells hB hL
      have hlen : xs.length = k * sz := by rw [← hxs]; simp; omega
      obtain ⟨ys, l1, l2⟩ := exists_list (fun j y => (k ≠ 0 → w.cell? ⟨b, off + j, none⟩ = some y) ∧ ∀ x, xs[j]? = some x → VR μ x y) (k * sz) fun j hj => by
        have hk : k ≠ 0 := fun h => by rw [h] at hj; simp at hj
        have hj' : j < xs.length := by omega
        have := hb (.inl hk); subst this
        have := hof hk; subst this
        have hxj : B.cells[o + j]? = some xs[j] := by
          have : ((B.cells.drop o).take (k * sz))[j]? = some xs[j] := by rw [hxs]; exact List.getElem?_eq_getElem hj'
          rw [List.getElem?_take, if_pos hj, List.getElem?_drop] at this
          exact this
        obtain ⟨y, y1, y2⟩ := hcells (o + j) _ hxj
        refine ⟨y, fun _ => by rw [Nat.add_assoc]; exact y1, fun u hu => ?_⟩
        rw [List.getElem?_eq_getElem hj'] at hu
        cases hu; exact y2
      have hrd : ∀ (w' : World) (n : Nat), n ≤ k → (n ≠ 0 → w'.heap[b]? = w.heap[b]?) → (Builtin.firstCells sz n (.slice (some ⟨b, off, none⟩) k cap)).run P w' = .ok (ys.take (n * sz)).toArray w' := fun w' n hn hw => by
        refine run_firstCells_some w' sz n _ k cap _ (by rw [List.length_take, l1]; have := Nat.mul_le_mul_right sz hn; omega) fun j v hv => ?_
        have hn0 : n ≠ 0 := by rintro rfl; simp at hv
        rw [List.getElem?_take] at hv
        split at hv
        · rw [add_off, cell_of_heap (hw hn0)]
          exact (l2 j v hv).1 (by omega)
        · cases hv
      refine ⟨by simp [Builtin.lenOf], ⟨_, hu, .inr ⟨_, rfl⟩⟩, hlen, ys, l1, fun j u v hu hv => (l2 j v hv).2 u hu, all_vr h1 (by omega) (fun j u v hu hv => (l2 j v hv).2 u hu), fun n hn => hrd w n hn fun _ => rfl, fun w' hs hh => ?_⟩
      have := hrd w' k (Nat.le_refl _) fun hk => hh b ?_
      · rw [List.take_of_length_le (by omega)] at this; exact this
      · have hb := hb (.inl hk); subst hb
        have hne : B.cells ≠ [] := fun hc => by
          rw [hc] at hfit; simp at hfit
          have := Nat.mul_pos (Nat.pos_of_ne_zero hk) hsz; omega
        obtain ⟨L', q1, q2, _⟩ := hm.blk id B hB
        rw [hL] at q1; cases q1
        exact q2.lt (.inr hne)
    | slcNil =>
      have hlen : xs.length = 0 * sz := by rw [← hxs]; simp
      refine ⟨by simp [Builtin.lenOf], ⟨_, hu, .inr ⟨_, rfl⟩⟩, hlen, [], by simp, fun j u v hu hv => by simp at hv, fun y hy => by simp at hy, fun n hn => ?_, fun w' _ _ => by simp [Builtin.firstCells]⟩
      obtain rfl : n = 0 := by omega
      simp [Builtin.firstCells]
  | nil hx hu =>
    have hv := ho _ hx
    generalize hX : A.eval x = X at hv
    cases hv
    exact ⟨by simp [Builtin.lenOf], ⟨_, hu, .inr ⟨_, rfl⟩⟩, by simp, [], by simp, fun j u v hu => by simp at hu, fun y hy => by simp at hy, fun n hn => by simp [Builtin.firstCells], fun w' _ _ => by simp [Builtin.firstCells]⟩
  | str hx hu hs hxs =>
    rename_i s
    have e := (ho _ hx).string'
    subst hs hxs
    have hfc : ∀ (w' : World) (n : Nat), n ≤ s.size → (Builtin.firstCells 1 n (.string s)).run P w' = .ok ((s.data.toList.map u8v).take (n * 1)).toArray w' := fun w' n hn => by
      simp only [Builtin.firstCells, Sem.run_pure, Nat.mul_one]
      congr 1
      apply Array.ext'
      rw [Array.toList_map]
      show List.map u8v (s.extract 0 n).data.toList = _
      rw [← List.map_take]
      congr 1
      simp
    have hln : (s.data.toList.map u8v).length = s.size * 1 := by rw [List.length_map, Array.length_toList, Nat.mul_one]; rfl
    refine ⟨by simp [Builtin.lenOf, e], ⟨_, hu, .inl rfl⟩, hln, s.data.toList.map u8v, hln, fun j u v hu hv => by rw [hu] at hv; cases hv; simp at hu; obtain ⟨b, _, rfl⟩ := hu; exact .int _ _, fun y hy => by simp at hy; obtain ⟨b, _, rfl⟩ := hy; rfl, fun n hn => by rw [e]; exact hfc w n hn, fun w' _ _ => by
      rw [e, hfc w' _ (Nat.le_refl _), List.take_of_length_le (by rw [hln]; exact Nat.le_refl _)]⟩
omit t pp af g d ρ P m in
theorem live_none {m : Mem} {i id : Nat} {B : Blk} (h : live (m.set i none) id = some B) : id ≠ i ∧ live m id = some B := by
  rcases live_set h with ⟨_, h⟩ | h
  · cases h
  · exact h
/-- A block is written, and has a new number. -/
theorem RepM.replace {F : Nat → Prop} {w0 w w' : World} {μ : Mu} {m : Mem} (h : RepM F w0 μ m w) (hd : Dom μ m.length) {i : Nat} {B : Blk} {L L' : Loc} {cs : List Value} (hB : live m i = some B) (hL : μ i = some L) (hr : Rw B L) (hb : L'.b = L.b) (hrw : L'.rw = true)
    (ho : w'.os = w.os) (ht : w'.tape = w.tape) (hp : w'.output = w.output) (hs : w'.heap.size = w.heap.size) (hh : ∀ k, k ≠ L.b → w'.heap[k]? = w.heap[k]?)
    (hrow : RowOK L' w') (hc : CellsOK μ cs L'.b L'.o w') : RepM F w0 (μ.set m.length L') ((m.set i none) ++ [some ⟨cs, true, L'.z⟩]) w' := by
  obtain ⟨L0, k1, k2, k3⟩ := h.blk i B hB
  rw [hL] at k1; cases k1
  have hsub := Mu.set_sub (L := L') (hd m.length (Nat.le_refl _))
  have hlen : (m.set i none).length = m.length := by simp
  have hold : ∀ {id B}, live (m.set i none) id = some B → id < m.length := fun {id B} hB => by
    rw [live_some] at hB
    have := (List.getElem?_eq_some_iff.1 hB).1
    omega
  refine ⟨ho.trans h.os, ht.trans h.tape, hp.trans h.output, by rw [hs]; exact h.size, fun k hk => ?_, h.up, fun id B' hB' => ?_, fun id id' B1 B2 L1 L2 h1 h2 hne hl1 hl2 hr1 hb2 => ?_⟩
  · rw [hh k fun e => hk (e ▸ k3 hr)]; exact h.frame k hk
  · rcases live_push.1 hB' with hB1 | ⟨e1, hB1⟩
    · obtain ⟨hne, hB1⟩ := live_none hB1
      obtain ⟨L1, j1, j2, j3⟩ := h.blk id B' hB1
      exact ⟨L1, hsub _ _ j1, (j2.keep fun hb => hh _ fun e => h.excl i id B B' L L1 hB hB1 (fun e => hne e.symm) hL j1 hr hb e.symm).mono hsub, j3⟩
    · rw [hlen] at e1
      subst e1
      cases hB1
      exact ⟨L', Mu.set_same, ⟨fun _ => hrw, rfl, hc.mono hsub, fun _ _ => hrow⟩, fun _ => hb ▸ k3 hr⟩
  · have old : ∀ {id B L1}, live (m.set i none) id = some B → Mu.set μ m.length L' id = some L1 → Takes B L1 → live m id = some B ∧ id ≠ i ∧ μ id = some L1 := fun {id B L1} hB1 hl hb1 => by
      have hlt := hold hB1
      obtain ⟨hne, hB1⟩ := live_none hB1
      unfold Mu.set at hl
      rw [if_neg (by omega)] at hl
      exact ⟨hB1, hne, hl⟩
    rcases live_push.1 h1 with g1 | ⟨e1, g1⟩ <;> rcases live_push.1 h2 with g2 | ⟨e2, g2⟩
    · obtain ⟨a1, a2, a3⟩ := old g1 hl1 (.inl hr1)
      obtain ⟨b1, b2, b3⟩ := old g2 hl2 hb2
      exact h.excl id id' B1 B2 L1 L2 a1 b1 hne a3 b3 hr1 hb2
    · rw [hlen] at e2
      subst e2
      rw [Mu.set_same] at hl2; cases hl2
      obtain ⟨a1, a2, a3⟩ := old g1 hl1 (.inl hr1)
      rw [hb]
      exact h.excl id i B1 B L1 L a1 hB a2 a3 hL hr1 (.inl hr)
    · rw [hlen] at e1
      subst e1
      rw [Mu.set_same] at hl1; cases hl1
      obtain ⟨a1, a2, a3⟩ := old g2 hl2 hb2
      rw [hb]
      exact h.excl i id' B B2 L L2 hB a1 (fun e => a2 e.symm) hL a3 hr hb2
    · omega
theorem RepM.drewM {F : Nat → Prop} {w0 w : World} {μ : Mu} {m : Mem} (h : RepM F w0 μ m w) : RepM F w0 μ m w.drew := h.drew
theorem run_app_room {sT xT ty e : TypeId} {ti : TypeInfo} {X : Value} {n cap k : Nat} {a : Addr} {w w' : World} {ys : List Value} (hs : P.underlying sT = some (.slice e)) (hi : P.info? e = some ti) (hx : ∃ D, P.underlying xT = some D ∧ (D = .string ∨ ∃ e, D = .slice e)) (hk : (Builtin.lenOf X).run P w = .ok k w)
    (hroom : n + k ≤ cap) (hf : (Builtin.firstCells ti.size k X).run P w = .ok ys.toArray w) (hst : (storeCells (a.add (n * ti.size)) ys).run P w = .ok () w') :
    (Builtin.append_ #[sT, xT] ty #[.slice (some a) n cap, X]).run P w = .ok (.slice (some a) (n + k) cap) w' := by
  obtain ⟨D, hD, rfl | ⟨e', rfl⟩⟩ := hx <;>
    simp [Builtin.append_, run_und hs, run_und hD, run_size hi, hk, hroom, hf, hst]
theorem run_app_grow {sT xT ty e : TypeId} {ti : TypeInfo} {z X : Value} {n cap k : Nat} {base : Option Addr} {w : World} {olds ys : List Value} (hs : P.underlying sT = some (.slice e)) (hi : P.info? e = some ti) (hz : ti.zero = some z) (hx : ∃ D, P.underlying xT = some D ∧ (D = .string ∨ ∃ e, D = .slice e)) (hk : (Builtin.lenOf X).run P w = .ok k w)
    (hg : cap < n + k) (h63 : n + k ≤ 9223372036854775807) (hfit : Builtin.nextslicecap (n + k) cap * ti.bytes ≤ 281474976710656) (hfo : (Builtin.firstCells ti.size n (.slice base n cap)).run P w.drew = .ok olds.toArray w.drew) (hf : (Builtin.firstCells ti.size k X).run P w.drew = .ok ys.toArray w.drew) :
    (Builtin.append_ #[sT, xT] ty #[.slice base n cap, X]).run P w = .ok (.slice (some ⟨w.heap.size, 0, none⟩) (n + k) (grownCap w (n + k) cap e))
        (w.drew.alloc (.cells (olds.toArray ++ ys.toArray ++ Builtin.zeroCells z.cells (grownCap w (n + k) cap e - (n + k))) e)) := by
  have hn : ¬ (n + k ≤ cap) := by omega
  have h63' : ¬ (9223372036854775807 < ((n : Int) + (k : Int))) := by omega
  have h48' : ¬ (281474976710656 < Builtin.nextslicecap (n + k) cap * ti.bytes) := by omega
  obtain ⟨D, hD, rfl | ⟨e', rfl⟩⟩ := hx <;>
    (simp [Builtin.append_, run_und hs, run_und hD, run_size hi, run_info hi, zeroValue, hz, hk, hn, h63', h48', Question.forced, hf, hfo, newRow, grownCap, IntKind.max, IntKind.signed, IntKind.bits]
     congr 2
     apply Array.ext'
     simp [List.append_assoc])
/-- append to a slice of one's own: its block has a new number then. -/
theorem ok_append {S x : Operand} {sT xT ct e : TypeId} {id o n c k sz b : Nat} {z : List Value} {B : Blk} {olds xs cs : List Value} {m' : Mem} {k' : Nat} [Ty P sT (.slice e)] [TyI P e sz b z] (hS : ρ S = some (.slice (some ⟨id, o, none⟩) n c)) (hB : live m id = some B) (hr : B.rw = true) (hz : Nat.beq B.z sz = true) (hsz : Nat.blt 0 sz = true) (hzl : Nat.beq z.length sz = true)
    (hx : Src P ρ m x xT sz k xs) (hfit : o + n * sz ≤ B.cells.length) (hol : (B.cells.drop o).take (n * sz) = olds) (hcs : olds ++ xs = cs) (hsm : (n + k) * b ≤ 140737488355328 ∧ n + k ≤ 9223372036854775807) (hm' : AppR (some ⟨cs, true, sz⟩) (m.set id none) m' k') :
    OpOK P ⟨d, .call ⟨.builtin .append, #[S, x], #[sT, xT]⟩, ct, pp, af, g⟩ ρ m (.slice (some ⟨k', 0, none⟩) (n + k) (n + k)) m' := .gen fun F w0 μ A w hd hm ho => by
  obtain ⟨rfl, hk'⟩ := hm'.spec
  have hk' : k' = m.length := by simpa using hk'
  subst hk' hcs
  have hsz := Nat.blt_eq.mp hsz
  have hzl := Nat.eq_of_beq_eq_true hzl
  obtain ⟨ti, zv, i1, i2, i3, i4, i5⟩ := TyI.ex (P := P) (t := e)
  have hu := Ty.eq (P := P) (t := sT)
  have hvS := ho S _ (by simp [Op.operands, Call.operands]) hS
  obtain ⟨l1, l2, l3, ys, l4, l5, l6, l7, l8⟩ := hx.run hsz (A := A) hm fun u hu => ho x u (by simp [Op.operands, Call.operands]) hu
  obtain ⟨L, q1, q2, _⟩ := hm.blk id B hB
  have hLz : L.z = sz := q2.z.trans (Nat.eq_of_beq_eq_true hz)
  have holl : olds.length = n * sz := by rw [← hol]; simp; omega
  have h00 : (m.set id none).length = m.length := by simp
  have hless : RepM F w0 μ (m.set id none) w := hm.less fun i B h => (live_none h).2
  have hd0 : Dom μ (m.set id none).length := by simpa using hd
  generalize hX : A.eval S = X at hvS
  cases hvS with
  | slcNil =>
    have ho0 : olds = [] := List.eq_nil_of_length_eq_zero (by rw [holl]; simp)
    subst ho0
    rw [List.nil_append]
    simp only [Nat.zero_add] at hsm ⊢
    by_cases hk : k = 0
    · subst hk
      have hx0 : xs = [] := List.eq_nil_of_length_eq_zero (by rw [l3]; simp)
      subst hx0
      have hy0 : ys = [] := List.eq_nil_of_length_eq_zero (by rw [l4]; simp)
      subst hy0
      have hg := hless.ghost hd0 sz
      rw [h00] at hg
      refine ⟨.slice none 0 0, w, _, ?_, Mu.set_ext, by simpa using Mu.set_dom hd, hg, .slcNil⟩
      have hfn := l7 0 (Nat.le_refl _)
      obtain ⟨D, hD, rfl | ⟨e', rfl⟩⟩ := l2 <;> simp [execOp, resolve, invoke, builtin, hX, Builtin.append_, run_und hu, run_und hD, run_size i1, i2, l1, hfn]
    · have hk : 0 < k := by omega
      have hfn := l8 w.drew (Nat.le_refl _) fun _ _ => rfl
      have hrun := run_app_grow (P := P) (ty := ct) (n := 0) (cap := 0) (base := none) (olds := []) hu i1 i4 l2 l1 (show 0 < 0 + k by omega) (by omega) (by rw [i3, Nat.zero_add]; exact growslice_fits hk hsm.1) (by simp [Builtin.firstCells]) (by rw [i2]; exact hfn)
      rw [Nat.zero_add] at hrun
      have hge := grownCap_ge w k 0 e
      have hsize : (([] : List Value).toArray ++ ys.toArray ++ Builtin.zeroCells zv.cells (grownCap w k 0 e - k)).size = (grownCap w k 0 e) * sz := by
        simp only [Array.size_append, List.size_toArray, List.length_nil, Nat.zero_add, l4, size_zeroCells, i5, hzl]
        rw [← Nat.add_mul]
        congr 1; omega
      have hal := hless.drewM.alloc (e := e) (z := sz) (lo := 0) (hi := 0) (cs := xs) (c := ([] : List Value).toArray ++ ys.toArray ++ Builtin.zeroCells zv.cells (grownCap w k 0 e - k)) hd0 (fun j u hu => by
        have hjl : j < ys.length := by
          have := (List.getElem?_eq_some_iff.1 hu).1
          omega
        have hyj : ys[j]? = some ys[j] := List.getElem?_eq_getElem hjl
        refine ⟨ys[j], ?_, l5 _ u _ hu hyj⟩
        rw [Array.getElem?_append_left (by simp; omega)]
        simp) (fun j _ => by omega)
      rw [h00] at hal
      refine ⟨.slice (some ⟨w.heap.size, 0, none⟩) k (grownCap w k 0 e), _, _, ?_, Mu.set_ext, by simpa using Mu.set_dom hd, hal,
        .slc (L := ⟨w.heap.size, 0, _, sz, true⟩) Mu.set_same hge (fun _ => rfl) (fun _ => rfl) (fun _ => by simp only [Nat.zero_add]; rw [hsize]; exact Nat.le_refl _)⟩
      simp [execOp, resolve, invoke, builtin, hX, hrun]
  | slc hL hc hb hof hcap =>
    rename_i cap b' off L1
    rw [q1] at hL; cases hL
    have hb := hb (.inr (q2.rw hr)); subst hb
    have hcap := hcap (q2.rw hr)
    -- the elements that are there
    obtain ⟨os, o1, o2⟩ := exists_list (fun j y => w.cell? ⟨L.b, off + j, none⟩ = some y ∧ ∀ u, olds[j]? = some u → VR μ u y) (n * sz) fun j hj => by
      have hn0 : n ≠ 0 := fun h => by rw [h] at hj; simp at hj
      have := hof hn0; subst this
      have hxj : B.cells[o + j]? = some olds[j] := by
        have : ((B.cells.drop o).take (n * sz))[j]? = some olds[j] := by
          have h0 : olds[j]? = some olds[j] := List.getElem?_eq_getElem (by omega)
          rw [← h0, hol]
        rw [List.getElem?_take, if_pos hj, List.getElem?_drop] at this
        exact this
      obtain ⟨y, y1, y2⟩ := q2.cells (o + j) _ hxj
      refine ⟨y, by rw [Nat.add_assoc]; exact y1, fun u hu => ?_⟩
      rw [List.getElem?_eq_getElem (by omega)] at hu
      cases hu; exact y2
    have hbd : w.heap.size ≤ w.drew.heap.size := Nat.le_refl _
    by_cases hroom : n + k ≤ cap
    · by_cases hN : L.N = 0
      · rw [hLz, hN] at hcap
        obtain rfl : cap = 0 := by
          rcases Nat.eq_zero_or_pos cap with h | h
          · exact h
          · have := Nat.mul_pos h hsz; omega
        obtain rfl : n = 0 := by omega
        obtain rfl : k = 0 := by omega
        obtain rfl : off = 0 := by omega
        have ho0 : olds = [] := List.eq_nil_of_length_eq_zero (by rw [holl]; simp)
        subst ho0
        have hx0 : xs = [] := List.eq_nil_of_length_eq_zero (by rw [l3]; simp)
        subst hx0
        have hy0 : ys = [] := List.eq_nil_of_length_eq_zero (by rw [l4]; simp)
        subst hy0
        have hg := hless.ghost hd0 sz L.b 0
        rw [h00] at hg
        have hrun := run_app_room (P := P) (ty := ct) hu i1 l2 l1 hroom (by rw [i2, l7 0 (Nat.le_refl _), List.take_of_length_le (by simp)]) (w' := w) (a := ⟨L.b, 0, none⟩) (by simp [storeCells])
        refine ⟨.slice (some ⟨L.b, 0, none⟩) 0 0, w, _, ?_, Mu.set_ext, by simpa using Mu.set_dom hd, hg, .slc (L := ⟨L.b, 0, 0, sz, true⟩) Mu.set_same (Nat.le_refl _) (fun _ => rfl) (fun _ => rfl) (fun _ => by simp)⟩
        simp only [Nat.add_zero] at hrun
        simp [execOp, resolve, invoke, builtin, hX, hrun]
      have hrow := q2.row (q2.rw hr) (.inl ⟨hr, hN⟩)
      obtain ⟨cc, et, lo, hi, r1, r2, r3⟩ := hrow
      have hcell : ∀ j, w.cell? ⟨L.b, j, none⟩ = cc[j]? := fun j => by simp [World.cell?, r1]
      have e1 : n * sz + k * sz = (n + k) * sz := (Nat.add_mul _ _ _).symm
      have e2 : (n + k) * sz ≤ cap * sz := Nat.mul_le_mul_right _ hroom
      rw [hLz] at hcap
      have hfitc : off + n * sz + ys.length ≤ cc.size := by rw [l4, r2]; omega
      have hst := run_storeCells_cells (P := P) L.b (off + n * sz) ys 0 w (fun j hj => by
          rw [hcell]; simp; omega) (fun j hj => by
          simp only [World.frozen?, r1]
          have := r3.2 (off + n * sz + 0 + j) (by omega)
          simpa using this) l6
      rw [Nat.add_zero] at hst
      obtain ⟨a1, a2, a3, a4, a5, c', a6, a7, a8, a9⟩ := setCells_heap L.b ys (off + n * sz) w cc r1 hfitc
      have hrun := run_app_room (P := P) (ty := ct) hu i1 l2 l1 hroom (by rw [i2, l7 k (Nat.le_refl _), List.take_of_length_le (by omega)]) (w' := w.setCells L.b (off + n * sz) ys) (a := ⟨L.b, off, none⟩) (by rw [i2, add_off]; exact hst)
      refine ⟨.slice (some ⟨L.b, off, none⟩) (n + k) cap, w.setCells L.b (off + n * sz) ys, _, ?_, Mu.set_ext, by simpa using Mu.set_dom hd,
        hm.replace hd (L' := ⟨L.b, off, L.N, sz, true⟩) (cs := olds ++ xs) hB q1 ⟨hr, hN⟩ rfl rfl a1 a2 a3 a4 a5 ⟨c', et, lo, hi, a6, a7.trans r2, r3.1, fun j hj => r3.2 j (by omega)⟩ fun j x hx => ?_,
        .slc (L := ⟨L.b, off, L.N, sz, true⟩) Mu.set_same hroom (fun _ => rfl) (fun _ => rfl) (fun _ => hcap)⟩
      · simp [execOp, resolve, invoke, builtin, hX, hrun]
      · have hcell' : (w.setCells L.b (off + n * sz) ys).cell? ⟨L.b, off + j, none⟩ = c'[off + j]? := by simp [World.cell?, a6]
        show ∃ y, (w.setCells L.b (off + n * sz) ys).cell? ⟨L.b, off + j, none⟩ = some y ∧ VR μ x y
        rw [hcell']
        rcases Nat.lt_or_ge j (n * sz) with hj | hj
        · rw [List.getElem?_append_left (by omega)] at hx
          have hoj : os[j]? = some os[j] := List.getElem?_eq_getElem (by omega)
          have := o2 j _ hoj
          exact ⟨os[j], by rw [a9 (off + j) (by omega), ← hcell]; exact this.1, this.2 x hx⟩
        · rw [List.getElem?_append_right (by omega), holl] at hx
          have hjl : j - n * sz < ys.length := by
            have := (List.getElem?_eq_some_iff.1 hx).1
            omega
          have hyj : ys[j - n * sz]? = some ys[j - n * sz] := List.getElem?_eq_getElem hjl
          refine ⟨ys[j - n * sz], ?_, l5 _ x _ hx hyj⟩
          have := a8 (j - n * sz) hjl
          rw [show off + n * sz + (j - n * sz) = off + j by omega] at this
          rw [this]; exact hyj
    · have hcl : n ≤ cap := hc
      have hfo : (Builtin.firstCells ti.size n (.slice (some ⟨L.b, off, none⟩) n cap)).run P w.drew = .ok os.toArray w.drew :=
        run_firstCells_some w.drew ti.size n _ n cap os (by rw [o1, i2]) fun j v hv => by rw [add_off]; exact (o2 j v hv).1
      have hfn := l8 w.drew (Nat.le_refl _) fun _ _ => rfl
      have hrun := run_app_grow (P := P) (ty := ct) hu i1 i4 l2 l1 (show cap < n + k by omega) hsm.2 (by rw [i3]; exact growslice_fits (by omega) hsm.1) hfo (by rw [i2]; exact hfn)
      have hge := grownCap_ge w (n + k) cap e
      have hm1 : RepM F w0 μ (m.set id none) w.drew := hm.drewM.less fun i B h => (live_none h).2
      have hsize : (os.toArray ++ ys.toArray ++ Builtin.zeroCells zv.cells (grownCap w (n + k) cap e - (n + k))).size = (grownCap w (n + k) cap e) * sz := by
        simp only [Array.size_append, List.size_toArray, o1, l4, size_zeroCells, i5, hzl]
        rw [← Nat.add_mul, ← Nat.add_mul]
        congr 1; omega
      refine ⟨.slice (some ⟨w.heap.size, 0, none⟩) (n + k) (grownCap w (n + k) cap e), _, _, ?_, ?_, ?_, hm1.alloc (e := e) (z := sz) (lo := 0) (hi := 0) (cs := olds ++ xs) (c := os.toArray ++ ys.toArray ++ Builtin.zeroCells zv.cells (grownCap w (n + k) cap e - (n + k))) (by simpa using hd) (fun j u hu => ?_) (fun j _ => by omega),
        .slc (L := ⟨w.heap.size, 0, (os.toArray ++ ys.toArray ++ Builtin.zeroCells zv.cells (grownCap w (n + k) cap e - (n + k))).size, sz, true⟩) (by rw [h00]; exact Mu.set_same) hge (fun _ => rfl) (fun _ => rfl) (fun _ => by rw [hsize]; exact Nat.le_of_eq (Nat.zero_add _))⟩
      · simp [execOp, resolve, invoke, builtin, hX, hrun]
      · simpa using Mu.set_ext
      · simpa using Mu.set_dom hd
      · rcases Nat.lt_or_ge j (n * sz) with hj | hj
        · rw [List.getElem?_append_left (by omega)] at hu
          have hoj : os[j]? = some os[j] := List.getElem?_eq_getElem (by omega)
          refine ⟨os[j], ?_, (o2 j _ hoj).2 u hu⟩
          rw [Array.getElem?_append_left (by simp; omega), Array.getElem?_append_left (by simp; omega)]
          simp
        · rw [List.getElem?_append_right (by omega), holl] at hu
          have hjl : j - n * sz < ys.length := by
            have := (List.getElem?_eq_some_iff.1 hu).1
            omega
          have hyj : ys[j - n * sz]? = some ys[j - n * sz] := List.getElem?_eq_getElem hjl
          refine ⟨ys[j - n * sz], ?_, l5 _ u _ hu hyj⟩
          rw [Array.getElem?_append_left (by simp; omega), Array.getElem?_append_right (by simp; omega)]
          simp [o1]
/-- append to nil. -/
theorem ok_append_nil {S x : Operand} {sT xT ct e : TypeId} {k sz b : Nat} {z : List Value} {xs : List Value} {m' : Mem} {k' : Nat} [Ty P sT (.slice e)] [TyI P e sz b z] (hS : ρ S = some (.slice none 0 0)) (hsz : Nat.blt 0 sz = true) (hzl : Nat.beq z.length sz = true)
    (hx : Src P ρ m x xT sz k xs) (hk : 0 < k) (hsm : k * b ≤ 140737488355328 ∧ k ≤ 9223372036854775807) (hm' : AppR (some ⟨xs, true, sz⟩) m m' k') :
    OpOK P ⟨d, .call ⟨.builtin .append, #[S, x], #[sT, xT]⟩, ct, pp, af, g⟩ ρ m (.slice (some ⟨k', 0, none⟩) k k) m' := .gen fun F w0 μ A w hd hm ho => by
  obtain ⟨rfl, rfl⟩ := hm'.spec
  have hsz := Nat.blt_eq.mp hsz
  have hzl := Nat.eq_of_beq_eq_true hzl
  obtain ⟨ti, zv, i1, i2, i3, i4, i5⟩ := TyI.ex (P := P) (t := e)
  have hu := Ty.eq (P := P) (t := sT)
  have hvS := ho S _ (by simp [Op.operands, Call.operands]) hS
  obtain ⟨l1, l2, l3, ys, l4, l5, l6, l7, l8⟩ := hx.run hsz (A := A) hm fun u hu => ho x u (by simp [Op.operands, Call.operands]) hu
  generalize hX : A.eval S = X at hvS
  cases hvS
  have hfn := l8 w.drew (Nat.le_refl _) fun _ _ => rfl
  have hrun := run_app_grow (P := P) (ty := ct) (n := 0) (cap := 0) (base := none) (olds := []) hu i1 i4 l2 l1 (show 0 < 0 + k by omega) (by omega) (by rw [i3, Nat.zero_add]; exact growslice_fits hk hsm.1) (by simp [Builtin.firstCells]) (by rw [i2]; exact hfn)
  rw [Nat.zero_add] at hrun
  have hge := grownCap_ge w k 0 e
  have hsize : (([] : List Value).toArray ++ ys.toArray ++ Builtin.zeroCells zv.cells (grownCap w k 0 e - k)).size = (grownCap w k 0 e) * sz := by
    simp only [Array.size_append, List.size_toArray, List.length_nil, Nat.zero_add, l4, size_zeroCells, i5, hzl]
    rw [← Nat.add_mul]
    congr 1; omega
  refine ⟨.slice (some ⟨w.heap.size, 0, none⟩) k (grownCap w k 0 e), _, _, ?_, Mu.set_ext, by simpa using Mu.set_dom hd, hm.drewM.alloc (e := e) (z := sz) (lo := 0) (hi := 0) (cs := xs) (c := ([] : List Value).toArray ++ ys.toArray ++ Builtin.zeroCells zv.cells (grownCap w k 0 e - k)) hd (fun j u hu => ?_) (fun j _ => by omega),
    .slc (L := ⟨w.heap.size, 0, _, sz, true⟩) Mu.set_same hge (fun _ => rfl) (fun _ => rfl) (fun _ => by simp only [Nat.zero_add]; rw [hsize]; exact Nat.le_refl _)⟩
  · simp [execOp, resolve, invoke, builtin, hX, hrun]
  · have hjl : j < ys.length := by
      have := (List.getElem?_eq_some_iff.1 hu).1
      omega
    have hyj : ys[j]? = some ys[j] := List.getElem?_eq_getElem hjl
    refine ⟨ys[j], ?_, l5 _ u _ hu hyj⟩
    rw [Array.getElem?_append_left (by simp; omega)]
    simp
/-- Nothing is added to nil. -/
theorem ok_append_none {S x : Operand} {sT xT ct e : TypeId} {sz b : Nat} {z : List Value} {xs : List Value} [Ty P sT (.slice e)] [TyI P e sz b z] (hS : ρ S = some (.slice none 0 0)) (hsz : Nat.blt 0 sz = true) (hx : Src P ρ m x xT sz 0 xs) :
    OpOK P ⟨d, .call ⟨.builtin .append, #[S, x], #[sT, xT]⟩, ct, pp, af, g⟩ ρ m (.slice none 0 0) m := .val fun _ _ μ A w _ hm ho => by
  have hsz := Nat.blt_eq.mp hsz
  obtain ⟨ti, zv, i1, i2, i3, i4, i5⟩ := TyI.ex (P := P) (t := e)
  have hu := Ty.eq (P := P) (t := sT)
  have hvS := ho S _ (by simp [Op.operands, Call.operands]) hS
  obtain ⟨l1, l2, l3, ys, l4, l5, l6, l7, l8⟩ := hx.run hsz (A := A) hm fun u hu => ho x u (by simp [Op.operands, Call.operands]) hu
  generalize hX : A.eval S = X at hvS
  cases hvS
  have hy : ys = [] := List.eq_nil_of_length_eq_zero (by simpa using l4)
  have hf := l7 0 (Nat.le_refl _)
  subst hy
  obtain ⟨D, hD, rfl | ⟨e', rfl⟩⟩ := l2 <;>
    exact ⟨.slice none 0 0, by simp [execOp, resolve, invoke, builtin, hX, Builtin.append_, run_und hu, run_und hD, run_size i1, l1, i2, hf], .snil⟩
/-- copy: as many as fit. -/
theorem ok_copy {D x : Operand} {dT xT ct e : TypeId} {id o n c k sz b : Nat} {z : List Value} {bc : List Value} {z0 : Nat} {xs cs : List Value} {m' : Mem} [Ty P dT (.slice e)] [TyI P e sz b z] (hD : ρ D = some (.slice (some ⟨id, o, none⟩) n c)) (hB : live m id = some ⟨bc, true, z0⟩) (hsz : Nat.blt 0 sz = true)
    (hx : Src P ρ m x xT sz k xs) (hpos : 0 < min k n) (hfit : o + (min k n) * sz ≤ bc.length) (hcs : bc.take o ++ xs.take ((min k n) * sz) ++ bc.drop (o + (min k n) * sz) = cs) (hm' : SetR (some ⟨cs, true, z0⟩) m id m') :
    OpOK P ⟨d, .call ⟨.builtin .copy, #[D, x], #[dT, xT]⟩, ct, pp, af, g⟩ ρ m (.int .i64 (min k n : Nat)) m' := .gen fun F w0 μ A w hd hm ho => by
  have hm' := hm'.spec
  subst hm' hcs
  have hsz := Nat.blt_eq.mp hsz
  obtain ⟨ti, zv, i1, i2, i3, i4, i5⟩ := TyI.ex (P := P) (t := e)
  have hu := Ty.eq (P := P) (t := dT)
  have hvD := ho D _ (by simp [Op.operands, Call.operands]) hD
  obtain ⟨l1, l2, l3, ys, l4, l5, l6, l7, l8⟩ := hx.run hsz (A := A) hm fun u hu => ho x u (by simp [Op.operands, Call.operands]) hu
  obtain ⟨L, q1, q2, _⟩ := hm.blk id _ hB
  generalize hX : A.eval D = X at hvD
  cases hvD with
  | slc hL hc hb hof hcap =>
    rename_i cap b' off L1
    rw [q1] at hL; cases hL
    have hn0 : n ≠ 0 := by omega
    have hb := hb (.inl hn0); subst hb
    have := hof hn0; subst this
    have hmk : (min k n) * sz ≤ k * sz := Nat.mul_le_mul_right _ (by omega)
    have hxl : (xs.take ((min k n) * sz)).length = (min k n) * sz := by rw [List.length_take]; omega
    have hyl : (ys.take ((min k n) * sz)).length = (min k n) * sz := by rw [List.length_take]; omega
    have hsp : SpliceR bc o (xs.take ((min k n) * sz)) (bc.take o ++ xs.take ((min k n) * sz) ++ bc.drop (o + (min k n) * sz)) := by
      have := SpliceR.of (l := bc) (o := o) (vs := xs.take ((min k n) * sz)) (by rw [hxl]; exact hfit)
      rwa [hxl] at this
    obtain ⟨w', s1, s2⟩ := hm.storeN (P := P) hB rfl q1 hsp (by rw [hxl]; exact Nat.mul_pos hpos hsz) (ys := ys.take ((min k n) * sz)) (by rw [hxl, hyl]) (fun j u v hu hv => by
        rw [List.getElem?_take] at hu hv
        split at hu
        · rw [if_pos (by assumption)] at hv
          exact l5 j u v hu hv
        · cases hu) (fun y hy => l6 y (List.mem_of_mem_take hy))
    have hfc := l7 (min k n) (by omega)
    have hmin : Nat.min k n = min k n := rfl
    refine ⟨.int .i64 (min k n : Nat), w', μ, ?_, Ext.refl _ _, by simpa using hd, s2, .int _ _⟩
    simp [execOp, resolve, invoke, builtin, hX, Builtin.copy_, run_und hu, run_size i1, i2, l1, hmin, hfc, s1, goInt]
  | slcNil => simp at hpos
/-! ### bytes and strings -/
theorem ok_bytes_str {src dst : TypeId} {x : Operand} {id o n c : Nat} {e : TypeId} {B : Blk} {l : List UInt8} [Ty P src (.slice e)] [Ty P e (.int .u8)] [Ty P dst .string] (hx : ρ x = some (.slice (some ⟨id, o, none⟩) n c)) (hB : live m id = some B) (hfit : o + n ≤ B.cells.length) (hl : (B.cells.drop o).take n = l.map u8v) :
    OpOK P ⟨d, .convert src dst x, t, pp, af, g⟩ ρ m (.string ⟨l.toArray⟩) m := .val fun _ _ μ A w _ hm ho => by
  have hv := ho x _ (by simp [Op.operands]) hx
  have hll : l.length = n := by have := congrArg List.length hl; simp at this; omega
  generalize hX : A.eval x = X at hv
  cases hv with
  | slc hL hc hb hof hcap =>
    rename_i cap b off L
    have hcells := hm.cells hB hL
    have hld : (loadCells ⟨b, off, none⟩ n).run P w = .ok ((l.map fun x => (x.toNat : Int)).map (Value.int .u8)).toArray w := by
      have hlist : ((l.map fun x => (x.toNat : Int)).map (Value.int .u8)).length = n := by simp [hll]
      rw [← hlist]
      refine run_loadCells_list w _ _ fun j v hvj => ?_
      have hj : j < n := by have := (List.getElem?_eq_some_iff.1 hvj).1; rw [hlist] at this; exact this
      have := hb (.inl (by omega)); subst this
      have := hof (by omega); subst this
      have hxj : B.cells[o + j]? = some v := by
        have h0 : ((B.cells.drop o).take n)[j]? = some v := by rw [hl]; simpa [u8v] using hvj
        rw [List.getElem?_take, if_pos hj, List.getElem?_drop] at h0
        exact h0
      obtain ⟨y, y1, y2⟩ := hcells (o + j) v hxj
      rw [add_off, Nat.add_assoc, y1]
      simp at hvj
      obtain ⟨b, _, rfl⟩ := hvj
      rw [y2.int']
    have hfold : ∀ (l : List UInt8) (s : ByteArray), ((l.map fun x => (x.toNat : Int)).foldl (fun r n => r.push (UInt8.ofNat n.toNat)) s) = ⟨s.data ++ l.toArray⟩ := by
      intro l
      induction l with
      | nil => intro s; simp
      | cons b l ih =>
        intro s
        simp only [List.map_cons, List.foldl_cons, Int.toNat_natCast, UInt8.ofNat_toNat]
        rw [ih]
        simp [ByteArray.push]
    have hrun := run_bytesToString w ⟨b, off, none⟩ n cap _ hld
    rw [hfold] at hrun
    refine ⟨.string ⟨l.toArray⟩, ?_, .string _⟩
    simp only [execOp, hX, convert, Sem.run_bind, run_und (Ty.eq (P := P) (t := src)), run_und (Ty.eq (P := P) (t := dst)), run_und (Ty.eq (P := P) (t := e)), Result.andThen_ok, hrun, Sem.run_pure]
    have e0 : (ByteArray.empty.data ++ l.toArray) = l.toArray := by
      apply Array.ext'
      rw [Array.toList_append]
      rfl
    rw [e0]
  | slcNil =>
    obtain rfl : l = [] := List.eq_nil_of_length_eq_zero hll
    exact ⟨.string ⟨#[]⟩, by simp only [execOp, hX, convert, Sem.run_bind, run_und (Ty.eq (P := P) (t := src)), run_und (Ty.eq (P := P) (t := dst)), run_und (Ty.eq (P := P) (t := e)), Result.andThen_ok]; rfl, .string _⟩
theorem ok_nil_str {src dst : TypeId} {x : Operand} {e : TypeId} [Ty P src (.slice e)] [Ty P e (.int .u8)] [Ty P dst .string] (hx : ρ x = some (.slice none 0 0)) : OpOK P ⟨d, .convert src dst x, t, pp, af, g⟩ ρ m (.string ⟨#[]⟩) m := .val fun _ _ μ A w _ hm ho => by
  have hv := ho x _ (by simp [Op.operands]) hx
  generalize hX : A.eval x = X at hv
  cases hv
  exact ⟨.string ⟨#[]⟩, by simp [execOp, hX, convert, run_und (Ty.eq (P := P) (t := src)), run_und (Ty.eq (P := P) (t := dst)), run_und (Ty.eq (P := P) (t := e)), Conv.bytesToString]; rfl, .string _⟩
end
end Go.Proofs.Ytmmaolnjjjdecaa.Av
