/- Walking in numbers of one's own: the library, part C. -/
import Derived.Test.YtdenooeaiicheaaGreatVB
import Derived.Laws.AppendOwn
import Derived.Laws.StructEq
set_option linter.unusedVariables false
set_option linter.unusedSimpArgs false
/- Walking in numbers of one's own: slices cut, made, added to; bytes and strings. -/
namespace Go.Proofs.YtdenooeaiicheaaGreat.Av
def u8v (b : UInt8) : Value := .int .u8 b.toNat
theorem ok_load_u8 {P : Program} {ρ : Operand → Option Value} {m : Mem} {d : Option Tmp} {t : TypeId} {pp : String} {af : Array Edge} {g : Option (Nat × Bool)} {t' : TypeId} {l : List UInt8} {r : Bool} {z : Nat} {x : Operand} {id o j : Nat} {D} [Ty P t' D] (hx : ρ x = some (.pointer (some ⟨id, o, none⟩))) (hB : live m id = some ⟨l.map u8v, r, z⟩) (hD : aggD D = false) (hj : o = j) (hi : j < l.length) (hz : Nat.beq z mapZ = false := by rfl) :
    OpOK P ⟨d, .load t' x, t, pp, af, g⟩ ρ m (.int .u8 (l.getD j 0).toNat) m := ok_load_map hx hB hD hj hi hz
inductive BndR (ρ : Operand → Option Value) : Option Operand → Nat → Nat → Prop
  | none {n} : BndR ρ none n n
  | some {x k i n} : ρ x = some (.int k i) → 0 ≤ i → BndR ρ (some x) n i.toNat
section
variable {P : Program} {ρ : Operand → Option Value} {m : Mem} {d : Option Tmp} {t : TypeId} {pp : String} {af : Array Edge} {g : Option (Nat × Bool)}
theorem run_bounds {isS : Bool} {len cap l h : Nat} {lo hi : Option Operand} {A : Act} {μ : Mu} (hl : BndR ρ lo 0 l) (hh : BndR ρ hi len h) (h1 : l ≤ h) (h2 : h ≤ cap) (ho : ∀ x u, (lo = some x ∨ hi = some x) → ρ x = some u → VR μ u (A.eval x)) (w : World) :
    (Instr.sliceBounds isS len cap (lo.map A.eval) (hi.map A.eval) none).run P w = .ok (l, h, cap) w := by
  cases hl with
  | none =>
    cases hh with
    | none => simp [Instr.sliceBounds]
    | some hx hi0 =>
      rename_i x k i
      have e := (ho x _ (.inr rfl) hx).int'
      have : i ≤ (cap : Int) := by omega
      simp [Instr.sliceBounds, Instr.sliceBound, e, asIntOf, hi0, this]
  | some hx hi0 =>
    rename_i x k i
    have e := (ho x _ (.inl rfl) hx).int'
    cases hh with
    | none =>
      have : i ≤ (len : Int) := by omega
      simp [Instr.sliceBounds, Instr.sliceBound, e, asIntOf, hi0, this]
    | some hy hj0 =>
      rename_i y k' j
      have e' := (ho y _ (.inr rfl) hy).int'
      have h3 : j ≤ (cap : Int) := by omega
      have h4 : i ≤ j := by omega
      simp [Instr.sliceBounds, Instr.sliceBound, e, e', asIntOf, hi0, hj0, h3]
      intro hh
      exfalso
      omega
theorem mem_bnd {xt : TypeId} {x : Operand} {lo hi : Option Operand} {μ : Mu} {A : Act} (ho : ∀ y u, y ∈ (Op.slice xt x lo hi none).operands → ρ y = some u → VR μ u (A.eval y)) : ∀ y u, (lo = some y ∨ hi = some y) → ρ y = some u → VR μ u (A.eval y) := fun y u h hu =>
  ho y u (by simp only [Op.operands]; rcases h with rfl | rfl <;> simp) hu
theorem ok_slice_str {xt : TypeId} {x : Operand} {lo hi : Option Operand} {s : ByteArray} {l h : Nat} [Ty P xt .string] (hx : ρ x = some (.string s)) (hl : BndR ρ lo 0 l) (hh : BndR ρ hi s.size h) (h1 : l ≤ h ∧ h ≤ s.size) :
    OpOK P ⟨d, .slice xt x lo hi none, t, pp, af, g⟩ ρ m (.string (s.extract l h)) m := .val fun _ _ μ A w _ _ ho => by
  have e := (ho x _ (by simp [Op.operands]) hx).string'
  have hb := run_bounds (P := P) (isS := false) (A := A) (μ := μ) hl hh h1.1 h1.2 (mem_bnd ho) w
  exact ⟨_, by simp [execOp, Instr.sliceAt, Instr.slice, run_und (Ty.eq (P := P) (t := xt)), e, hb], .string _⟩
theorem ok_slice_slice {xt : TypeId} {x : Operand} {lo hi : Option Operand} {id o n c l h : Nat} {e : TypeId} {sz b : Nat} {z} {B : Blk} [Ty P xt (.slice e)] [TyI P e sz b z] (hx : ρ x = some (.slice (some ⟨id, o, none⟩) n c)) (hB : live m id = some B) (hz : Nat.beq B.z sz = true)
    (hl : BndR ρ lo 0 l) (hh : BndR ρ hi n h) (h1 : l ≤ h ∧ h ≤ n) :
    OpOK P ⟨d, .slice xt x lo hi none, t, pp, af, g⟩ ρ m (.slice (some ⟨id, o + l * sz, none⟩) (h - l) (h - l)) m := .val fun _ _ μ A w _ hm ho => by
  have hv := ho x _ (by simp [Op.operands]) hx
  obtain ⟨ti, _, k1, k2, _⟩ := TyI.ex (P := P) (t := e)
  generalize hX : A.eval x = X at hv
  obtain ⟨LB, q1, q2, _⟩ := hm.blk id B hB
  cases hv with
  | slc hL hc hb hof hr =>
    rename_i cap b' off L
    rw [q1] at hL; cases hL
    have hzz : LB.z = sz := q2.z.trans (Nat.eq_of_beq_eq_true hz)
    have hbd := run_bounds (P := P) (isS := true) (A := A) (μ := μ) hl hh h1.1 (show h ≤ cap by omega) (mem_bnd ho) w
    refine ⟨.slice (some (if cap = l then ⟨b', off, none⟩ else ⟨b', off + l * sz, none⟩)) (h - l) (cap - l), ?_, ?_⟩
    · simp only [execOp, hX, Instr.sliceAt, Instr.slice, Sem.run_bind, run_und (Ty.eq (P := P) (t := xt)), Result.andThen_ok, Option.map_none, hbd, run_size k1, k2, Sem.run_pure]
      split <;> simp [*, add_off]
    · by_cases hcl : cap = l
      · rw [if_pos hcl]
        exact .slc q1 (by omega) (fun hh => hb (hh.imp (fun h => by omega) fun h => h)) (fun h => by omega) (fun hrw => by have := hr hrw; rw [show cap - l = 0 by omega]; omega)
      · rw [if_neg hcl]
        refine .slc q1 (by omega) (fun hh => hb (hh.imp (fun h => by omega) fun h => h)) (fun h => by have := hof (by omega); omega) (fun hrw => ?_)
        have := hr hrw
        rw [hzz] at this ⊢
        have e1 : l * sz + (cap - l) * sz = cap * sz := by rw [← Nat.add_mul]; congr 1; omega
        omega
  | slcNil =>
    obtain rfl : h = 0 := by omega
    obtain rfl : l = 0 := by omega
    have hbd := run_bounds (P := P) (isS := true) (A := A) (μ := μ) hl hh (Nat.le_refl 0) (Nat.le_refl 0) (mem_bnd ho) w
    exact ⟨.slice none 0 0, by simp [execOp, hX, Instr.sliceAt, Instr.slice, run_und (Ty.eq (P := P) (t := xt)), hbd, run_size k1], .slcNil⟩
theorem ok_slice_nil {xt : TypeId} {x : Operand} {lo hi : Option Operand} {e : TypeId} {sz b : Nat} {z} [Ty P xt (.slice e)] [TyI P e sz b z] (hx : ρ x = some (.slice none 0 0)) (hl : BndR ρ lo 0 0) (hh : BndR ρ hi 0 0) :
    OpOK P ⟨d, .slice xt x lo hi none, t, pp, af, g⟩ ρ m (.slice none 0 0) m := .val fun _ _ μ A w _ hm ho => by
  have hv := ho x _ (by simp [Op.operands]) hx
  obtain ⟨ti, _, k1, k2, _⟩ := TyI.ex (P := P) (t := e)
  generalize hX : A.eval x = X at hv
  cases hv
  have hbd := run_bounds (P := P) (isS := true) (A := A) (μ := μ) hl hh (Nat.le_refl 0) (Nat.le_refl 0) (mem_bnd ho) w
  exact ⟨.slice none 0 0, by simp [execOp, hX, Instr.sliceAt, Instr.slice, run_und (Ty.eq (P := P) (t := xt)), hbd, run_size k1], .snil⟩
/-- A part of an array, by its address. -/
theorem ok_slice_array {xt : TypeId} {x : Operand} {lo hi : Option Operand} {id o n l h : Nat} {e : TypeId} {sz b : Nat} {z} {B : Blk} [Ty P xt (.array n e)] [TyI P e sz b z] (hx : ρ x = some (.pointer (some ⟨id, o, none⟩))) (hB : live m id = some B) (hz : Nat.beq B.z sz = true) (hsz : Nat.blt 0 sz = true) (hn : Nat.blt 0 n = true)
    (hfit : o + n * sz ≤ B.cells.length) (hl : BndR ρ lo 0 l) (hh : BndR ρ hi n h) (h1 : l ≤ h ∧ h ≤ n) (hmz : Nat.beq sz mapZ = false := by rfl) :
    OpOK P ⟨d, .slice xt x lo hi none, t, pp, af, g⟩ ρ m (.slice (some ⟨id, o + l * sz, none⟩) (h - l) (h - l)) m := .val fun _ _ μ A w _ hm ho => by
  obtain ⟨L, hL, hX⟩ := (ho x _ (by simp [Op.operands]) hx).ptr'
  obtain ⟨ti, _, k1, k2, _⟩ := TyI.ex (P := P) (t := e)
  obtain ⟨LB, q1, q2, _⟩ := hm.blk id B hB
  rw [hL] at q1; cases q1
  have hzz : L.z = sz := q2.z.trans (Nat.eq_of_beq_eq_true hz)
  have hsz := Nat.blt_eq.mp hsz
  have hn := Nat.blt_eq.mp hn
  have hpos : 0 < n * sz := Nat.mul_pos hn hsz
  have hN : L.rw = true → L.o + (o + n * sz) ≤ L.N := fun hrw => by
    have hmz' : B.z ≠ mapZ := by rw [Nat.eq_of_beq_eq_true hz]; exact notMap hmz
    obtain ⟨c, _, _, _, r1, r2, _⟩ := (q2.row (.inl hrw) (.inr (by intro h; rw [h] at hfit; simp at hfit; omega))).row hmz'
    obtain ⟨y, y1, _⟩ := q2.cells.cell hmz' (j := o + n * sz - 1) (x := B.cells[o + n * sz - 1]) (List.getElem?_eq_getElem (by omega))
    simp only [World.cell?, r1] at y1
    have : L.o + (o + n * sz - 1) < c.size := by
      rcases Nat.lt_or_ge (L.o + (o + n * sz - 1)) c.size with h' | h'
      · exact h'
      · simp [Array.getElem?_eq_none h'] at y1
    omega
  have hbd := run_bounds (P := P) (isS := false) (A := A) (μ := μ) hl hh h1.1 h1.2 (mem_bnd ho) w
  refine ⟨.slice (some (if n = l then ⟨L.b, L.o + o, none⟩ else ⟨L.b, L.o + o + l * sz, none⟩)) (h - l) (n - l), ?_, ?_⟩
  · simp only [execOp, hX, Instr.sliceAt, Instr.sureAddr, Sem.run_bind, run_und (Ty.eq (P := P) (t := xt)), Result.andThen_ok, Option.map_none, hbd, run_size k1, k2, Sem.run_pure]
    split <;> simp [*, add_off]
  · by_cases hcl : n = l
    · rw [if_pos hcl]
      exact .slc hL (by omega) (fun _ => rfl) (fun h => by omega) (fun hrw => by have := hN hrw; rw [show n - l = 0 by omega]; omega)
    · rw [if_neg hcl]
      refine .slc hL (by omega) (fun _ => rfl) (fun h => by omega) (fun hrw => ?_)
      have := hN hrw
      rw [hzz]
      have e1 : l * sz + (n - l) * sz = n * sz := by rw [← Nat.add_mul]; congr 1; omega
      omega
/-- make, of elements of one cell. -/
theorem ok_makeSlice {t' e : TypeId} {x y : Operand} {k1 k2 : IntKind} {a c : Int} {b : Nat} {z : Value} {m' : Mem} {k : Nat} [Ty P t' (.slice e)] [TyI P e 1 b [z]] (hp : plain 2 z = true) (hx : ρ x = some (.int k1 a)) (hy : ρ y = some (.int k2 c)) (h : 0 ≤ a ∧ a ≤ c ∧ b * c ≤ 140737488355328 ∧ c ≤ 140737488355328)
    (hm' : AppR (some ⟨List.replicate c.toNat z, true, 1⟩) m m' k) : OpOK P ⟨d, .makeSlice t' x y, t, pp, af, g⟩ ρ m (.slice (some ⟨k, 0, none⟩) a.toNat a.toNat) m' := .gen fun F w0 μ A w hd hm ho => by
  obtain ⟨rfl, rfl⟩ := hm'.spec
  obtain ⟨h1, h2, h3, h4⟩ := h
  have e1 := (ho x _ (by simp [Op.operands]) hx).int'
  have e2 := (ho y _ (by simp [Op.operands]) hy).int'
  obtain ⟨ti, v, i1, i2, i3, i4, i5⟩ := TyI.ex (P := P) (t := e)
  have w1 : IntKind.i64.wrap a = a := wrap64 (by omega)
  have w2 : IntKind.i64.wrap c = c := wrap64 (by omega)
  have hnt : ¬ (c < 0) := by omega
  have hb : ¬ ((ti.bytes : Int) * c > 2 ^ 48) := by rw [i3]; omega
  refine ⟨.slice (some ⟨w.heap.size, 0, none⟩) a.toNat c.toNat, w.alloc (.cells (Array.replicate c.toNat z) e (0, 0)), _, ?_, Mu.set_ext, by simpa using Mu.set_dom hd,
    hm.alloc (e := e) (z := 1) (lo := 0) (hi := 0) (cs := List.replicate c.toNat z) (c := Array.replicate c.toNat z) hd (fun j u hu => ?_) (fun j _ => by omega),
    .slc (L := ⟨w.heap.size, 0, (Array.replicate c.toNat z).size, 1, true⟩) Mu.set_same (by omega) (fun _ => rfl) (fun _ => rfl) (fun _ => by simp)⟩
  · have hz : ∀ zz : Array Value, (c.toNat ≠ 0 → zz = #[z]) → (Array.range c.toNat).map (fun i => zz[i % zz.size]!) = Array.replicate c.toNat z := fun zz hzz => by
      apply Array.ext (by simp)
      intro i hi1 hi2
      have : c.toNat ≠ 0 := by simp at hi1; omega
      simp [hzz this, Nat.mod_one]
    simp only [execOp, Instr.makeSlice, Sem.run_bind, run_und (Ty.eq (P := P) (t := t')), Result.andThen_ok, e1, e2, asInt, asIntOf, Sem.run_pure, run_info i1, w1, w2]
    have hcond : ((decide (c < 0) || decide ((ti.bytes : Int) * c > 2 ^ 48)) || decide (a < 0) || decide (a > c)) = false := by
      simp only [decide_eq_false hnt, decide_eq_false hb, Bool.false_or]
      rw [decide_eq_false (by omega), decide_eq_false (by omega)]; rfl
    simp only [hcond, Bool.false_eq_true, if_false, Sem.run_bind, Result.andThen_ok, run_askRoom, run_size i1, i2, Nat.mul_one]
    by_cases hc0 : c.toNat = 0
    · simp only [hc0, if_true, Sem.run_bind, Sem.run_pure, Result.andThen_ok]
      simp [newRow, show Array.range 0 = #[] from rfl]
    · simp only [hc0, if_false, Sem.run_bind, Sem.run_pure, Result.andThen_ok, run_zero i1 i4]
      rw [hz v.cells (fun _ => by rw [i5])]
      simp [newRow]
  · rw [List.getElem?_replicate] at hu
    split at hu
    · rename_i hj
      cases hu
      exact ⟨z, by simp [hj], plain_refl _ 2 z hp⟩
    · cases hu
/-! ### append, copy -/
/-- What append and copy take: a slice's elements, or a string's bytes. -/
inductive Src (P : Program) (ρ : Operand → Option Value) (m : Mem) (x : Operand) (xt : TypeId) (sz : Nat) : Nat → List Value → Prop
  | slc {id o k c e B xs} : ρ x = some (.slice (some ⟨id, o, none⟩) k c) → P.underlying xt = some (.slice e) → live m id = some B → o + k * sz ≤ B.cells.length → (B.cells.drop o).take (k * sz) = xs → xs.all (·.oneCell') = true → Nat.beq B.z mapZ = false → Src P ρ m x xt sz k xs
  | nil {e} : ρ x = some (.slice none 0 0) → P.underlying xt = some (.slice e) → Src P ρ m x xt sz 0 []
  | str {s xs} : ρ x = some (.string s) → P.underlying xt = some .string → sz = 1 → s.data.toList.map u8v = xs → Src P ρ m x xt sz s.size xs
theorem all_vr {μ : Mu} {xs ys : List Value} (h : xs.all (·.oneCell') = true) (hl : xs.length = ys.length) (hv : ∀ (j : Nat) x y, xs[j]? = some x → ys[j]? = some y → VR μ x y) : ∀ y ∈ ys, y.oneCell' = true := fun y hy => by
  obtain ⟨j, hj⟩ := List.mem_iff_getElem?.1 hy
  have hlt : j < xs.length := by rw [hl]; exact (List.getElem?_eq_some_iff.1 hj).1
  rw [(hv j _ y (List.getElem?_eq_getElem hlt) hj).oneCell]
  exact List.all_eq_true.1 h _ (List.getElem_mem _)
/-- The source's elements, read. -/
theorem Src.run {x : Operand} {xt : TypeId} {sz k : Nat} {xs : List Value} (h : Src P ρ m x xt sz k xs) (hsz : 0 < sz) {F w0 μ w} {A : Act} (hm : RepM F w0 μ m w) (ho : ∀ u, ρ x = some u → VR μ u (A.eval x)) :
    (Builtin.lenOf (A.eval x)).run P w = .ok k w ∧ (∃ D, P.underlying xt = some D ∧ (D = .string ∨ ∃ e, D = .slice e)) ∧ xs.length = k * sz ∧ ∃ ys : List Value, ys.length = k * sz ∧ (∀ (j : Nat) u v, xs[j]? = some u → ys[j]? = some v → VR μ u v) ∧ (∀ y ∈ ys, y.oneCell' = true) ∧
      (∀ n, n ≤ k → (Builtin.firstCells sz n (A.eval x)).run P w = .ok (ys.take (n * sz)).toArray w) ∧
      ∀ w', w.heap.size ≤ w'.heap.size → (∀ b, b < w.heap.size → w'.heap[b]? = w.heap[b]?) → (Builtin.firstCells sz k (A.eval x)).run P w' = .ok ys.toArray w' := by
  cases h with
  | slc hx hu hB hfit hxs h1 hmz =>
    rename_i id o c e B
    have hv := ho _ hx
    generalize hX : A.eval x = X at hv
    cases hv with
    | slc hL hc hb hof hr =>
      rename_i cap b off L
      have hcells := hm.cells hB (notMap hmz) hL
      have hlen : xs.length = k * sz := by rw [← hxs]; simp; omega
      obtain ⟨ys, l1, l2⟩ := exists_list (fun j y => (k ≠ 0 → w.cell? ⟨b, off + j, none⟩ = some y) ∧ ∀ x, xs[j]? = some x → VR μ x y) (k * sz) fun j hj => by
        have hk : k ≠ 0 := fun h => by rw [h] at hj; simp at hj
        have hj' : j < xs.length := by omega
        have := hb (.inl hk); subst this
        have := hof hk; subst this
        have hxj : B.cells[o + j]? = some xs[j] := by
          have : ((B.cells.drop o).take (k * sz))[j]? = some xs[j] := by rw [hxs]; exact List.getElem?_eq_getElem hj'
          rw [List.getElem?_take, if_pos hj, List.getElem?_drop] at this
          exact this
        obtain ⟨y, y1, y2⟩ := hcells (o + j) _ hxj
        refine ⟨y, fun _ => by rw [Nat.add_assoc]; exact y1, fun u hu => ?_⟩
        rw [List.getElem?_eq_getElem hj'] at hu
        cases hu; exact y2
      have hrd : ∀ (w' : World) (n : Nat), n ≤ k → (n ≠ 0 → w'.heap[b]? = w.heap[b]?) → (Builtin.firstCells sz n (.slice (some ⟨b, off, none⟩) k cap)).run P w' = .ok (ys.take (n * sz)).toArray w' := fun w' n hn hw => by
        refine run_firstCells_some w' sz n _ k cap _ (by rw [List.length_take, l1]; have := Nat.mul_le_mul_right sz hn; omega) fun j v hv => ?_
        have hn0 : n ≠ 0 := by rintro rfl; simp at hv
        rw [List.getElem?_take] at hv
        split at hv
        · rw [add_off, cell_of_heap (hw hn0)]
          exact (l2 j v hv).1 (by omega)
        · cases hv
      refine ⟨by simp [Builtin.lenOf], ⟨_, hu, .inr ⟨_, rfl⟩⟩, hlen, ys, l1, fun j u v hu hv => (l2 j v hv).2 u hu, all_vr h1 (by omega) (fun j u v hu hv => (l2 j v hv).2 u hu), fun n hn => hrd w n hn fun _ => rfl, fun w' hs hh => ?_⟩
      have := hrd w' k (Nat.le_refl _) fun hk => hh b ?_
      · rw [List.take_of_length_le (by omega)] at this; exact this
      · have hb := hb (.inl hk); subst hb
        have hne : B.cells ≠ [] := fun hc => by
          rw [hc] at hfit; simp at hfit
          have := Nat.mul_pos (Nat.pos_of_ne_zero hk) hsz; omega
        obtain ⟨L', q1, q2, _⟩ := hm.blk id B hB
        rw [hL] at q1; cases q1
        exact q2.lt (.inr hne)
    | slcNil =>
      have hlen : xs.length = 0 * sz := by rw [← hxs]; simp
      refine ⟨by simp [Builtin.lenOf], ⟨_, hu, .inr ⟨_, rfl⟩⟩, hlen, [], by simp, fun j u v hu hv => by simp at hv, fun y hy => by simp at hy, fun n hn => ?_, fun w' _ _ => by simp [Builtin.firstCells]⟩
      obtain rfl : n = 0 := by omega
      simp [Builtin.firstCells]
  | nil hx hu =>
    have hv := ho _ hx
    generalize hX : A.eval x = X at hv
    cases hv
    exact ⟨by simp [Builtin.lenOf], ⟨_, hu, .inr ⟨_, rfl⟩⟩, by simp, [], by simp, fun j u v hu => by simp at hu, fun y hy => by simp at hy, fun n hn => by simp [Builtin.firstCells], fun w' _ _ => by simp [Builtin.firstCells]⟩
  | str hx hu hs hxs =>
    rename_i s
    have e := (ho _ hx).string'
    subst hs hxs
    have hfc : ∀ (w' : World) (n : Nat), n ≤ s.size → (Builtin.firstCells 1 n (.string s)).run P w' = .ok ((s.data.toList.map u8v).take (n * 1)).toArray w' := fun w' n hn => by
      simp only [Builtin.firstCells, Sem.run_pure, Nat.mul_one]
      congr 1
      apply Array.ext'
      rw [Array.toList_map]
      show List.map u8v (s.extract 0 n).data.toList = _
      rw [← List.map_take]
      congr 1
      simp
    have hln : (s.data.toList.map u8v).length = s.size * 1 := by rw [List.length_map, Array.length_toList, Nat.mul_one]; rfl
    refine ⟨by simp [Builtin.lenOf, e], ⟨_, hu, .inl rfl⟩, hln, s.data.toList.map u8v, hln, fun j u v hu hv => by rw [hu] at hv; cases hv; simp at hu; obtain ⟨b, _, rfl⟩ := hu; exact .int _ _, fun y hy => by simp at hy; obtain ⟨b, _, rfl⟩ := hy; rfl, fun n hn => by rw [e]; exact hfc w n hn, fun w' _ _ => by
      rw [e, hfc w' _ (Nat.le_refl _), List.take_of_length_le (by rw [hln]; exact Nat.le_refl _)]⟩
omit t pp af g d ρ P m in
theorem live_none {m : Mem} {i id : Nat} {B : Blk} (h : live (m.set i none) id = some B) : id ≠ i ∧ live m id = some B := by
  rcases live_set h with ⟨_, h⟩ | h
  · cases h
  · exact h
/-- A block is written, and has a new number. -/
theorem RepM.replace {F : Nat → Prop} {w0 w w' : World} {μ : Mu} {m : Mem} (h : RepM F w0 μ m w) (hd : Dom μ m.length) {i : Nat} {B : Blk} {L L' : Loc} {cs : List Value} (hB : live m i = some B) (hL : μ i = some L) (hr : Rw B L) (hb : L'.b = L.b) (hrw : L'.rw = true)
    (ho : w'.os = w.os) (ht : w'.tape = w.tape) (hp : w'.output = w.output) (hs : w'.heap.size = w.heap.size) (hh : ∀ k, k ≠ L.b → w'.heap[k]? = w.heap[k]?)
    (hrow : RowOK L' w') (hc : CellsC μ cs L'.b L'.o w') (hmz : L'.z ≠ mapZ := by assumption) : RepM F w0 (μ.set m.length L') ((m.set i none) ++ [some ⟨cs, true, L'.z⟩]) w' := by
  obtain ⟨L0, k1, k2, k3⟩ := h.blk i B hB
  rw [hL] at k1; cases k1
  have hsub := Mu.set_sub (L := L') (hd m.length (Nat.le_refl _))
  have hlen : (m.set i none).length = m.length := by simp
  have hold : ∀ {id B}, live (m.set i none) id = some B → id < m.length := fun {id B} hB => by
    rw [live_some] at hB
    have := (List.getElem?_eq_some_iff.1 hB).1
    omega
  refine ⟨ho.trans h.os, ht.trans h.tape, hp.trans h.output, by rw [hs]; exact h.size, fun k hk => ?_, h.up, fun id B' hB' => ?_, fun id id' B1 B2 L1 L2 h1 h2 hne hl1 hl2 hr1 hb2 => ?_⟩
  · rw [hh k fun e => hk (e ▸ k3 hr)]; exact h.frame k hk
  · rcases live_push.1 hB' with hB1 | ⟨e1, hB1⟩
    · obtain ⟨hne, hB1⟩ := live_none hB1
      obtain ⟨L1, j1, j2, j3⟩ := h.blk id B' hB1
      exact ⟨L1, hsub _ _ j1, (j2.keep fun hb => hh _ fun e => h.excl i id B B' L L1 hB hB1 (fun e => hne e.symm) hL j1 hr hb e.symm).mono hsub, j3⟩
    · rw [hlen] at e1
      subst e1
      cases hB1
      exact ⟨L', Mu.set_same, ⟨fun _ => hrw, rfl, (hc.z hmz).mono hsub, fun _ _ => hrow.z hmz, fun h => absurd h hmz⟩, fun _ => hb ▸ k3 hr⟩
  · have old : ∀ {id B L1}, live (m.set i none) id = some B → Mu.set μ m.length L' id = some L1 → Takes B L1 → live m id = some B ∧ id ≠ i ∧ μ id = some L1 := fun {id B L1} hB1 hl hb1 => by
      have hlt := hold hB1
      obtain ⟨hne, hB1⟩ := live_none hB1
      unfold Mu.set at hl
      rw [if_neg (by omega)] at hl
      exact ⟨hB1, hne, hl⟩
    rcases live_push.1 h1 with g1 | ⟨e1, g1⟩ <;> rcases live_push.1 h2 with g2 | ⟨e2, g2⟩
    · obtain ⟨a1, a2, a3⟩ := old g1 hl1 (.inl hr1)
      obtain ⟨b1, b2, b3⟩ := old g2 hl2 hb2
      exact h.excl id id' B1 B2 L1 L2 a1 b1 hne a3 b3 hr1 hb2
    · rw [hlen] at e2
      subst e2
      rw [Mu.set_same] at hl2; cases hl2
      obtain ⟨a1, a2, a3⟩ := old g1 hl1 (.inl hr1)
      rw [hb]
      exact h.excl id i B1 B L1 L a1 hB a2 a3 hL hr1 (.inl hr)
    · rw [hlen] at e1
      subst e1
      rw [Mu.set_same] at hl1; cases hl1
      obtain ⟨a1, a2, a3⟩ := old g2 hl2 hb2
      rw [hb]
      exact h.excl i id' B B2 L L2 hB a1 (fun e => a2 e.symm) hL a3 hr hb2
    · omega
theorem RepM.drewM {F : Nat → Prop} {w0 w : World} {μ : Mu} {m : Mem} (h : RepM F w0 μ m w) : RepM F w0 μ m w.drew := h.drew
theorem run_app_room {sT xT ty e : TypeId} {ti : TypeInfo} {X : Value} {n cap k : Nat} {a : Addr} {w w' : World} {ys : List Value} (hs : P.underlying sT = some (.slice e)) (hi : P.info? e = some ti) (hx : ∃ D, P.underlying xT = some D ∧ (D = .string ∨ ∃ e, D = .slice e)) (hk : (Builtin.lenOf X).run P w = .ok k w)
    (hroom : n + k ≤ cap) (hf : (Builtin.firstCells ti.size k X).run P w = .ok ys.toArray w) (hst : (storeCells (a.add (n * ti.size)) ys).run P w = .ok () w') :
    (Builtin.append_ #[sT, xT] ty #[.slice (some a) n cap, X]).run P w = .ok (.slice (some a) (n + k) cap) w' := by
  obtain ⟨D, hD, rfl | ⟨e', rfl⟩⟩ := hx <;>
    simp [Builtin.append_, run_und hs, run_und hD, run_size hi, hk, hroom, hf, hst]
theorem run_app_grow {sT xT ty e : TypeId} {ti : TypeInfo} {z X : Value} {n cap k : Nat} {base : Option Addr} {w : World} {olds ys : List Value} (hs : P.underlying sT = some (.slice e)) (hi : P.info? e = some ti) (hz : ti.zero = some z) (hx : ∃ D, P.underlying xT = some D ∧ (D = .string ∨ ∃ e, D = .slice e)) (hk : (Builtin.lenOf X).run P w = .ok k w)
    (hg : cap < n + k) (h63 : n + k ≤ 9223372036854775807) (hfit : Builtin.nextslicecap (n + k) cap * ti.bytes ≤ 281474976710656) (hfo : (Builtin.firstCells ti.size n (.slice base n cap)).run P w.drew = .ok olds.toArray w.drew) (hf : (Builtin.firstCells ti.size k X).run P w.drew = .ok ys.toArray w.drew) :
    (Builtin.append_ #[sT, xT] ty #[.slice base n cap, X]).run P w = .ok (.slice (some ⟨w.heap.size, 0, none⟩) (n + k) (grownCap w (n + k) cap e))
        (w.drew.alloc (.cells (olds.toArray ++ ys.toArray ++ Builtin.zeroCells z.cells (grownCap w (n + k) cap e - (n + k))) e)) := by
  have hn : ¬ (n + k ≤ cap) := by omega
  have h63' : ¬ (9223372036854775807 < ((n : Int) + (k : Int))) := by omega
  have h48' : ¬ (281474976710656 < Builtin.nextslicecap (n + k) cap * ti.bytes) := by omega
  obtain ⟨D, hD, rfl | ⟨e', rfl⟩⟩ := hx <;>
    (simp [Builtin.append_, run_und hs, run_und hD, run_size hi, run_info hi, zeroValue, hz, hk, hn, h63', h48', Question.forced, hf, hfo, newRow, grownCap, IntKind.max, IntKind.signed, IntKind.bits]
     congr 2
     apply Array.ext'
     simp [List.append_assoc])
/-- append to a slice of one's own: its block has a new number then. -/
theorem ok_append {S x : Operand} {sT xT ct e : TypeId} {id o n c k sz b : Nat} {z : List Value} {B : Blk} {olds xs cs : List Value} {m' : Mem} {k' : Nat} [Ty P sT (.slice e)] [TyI P e sz b z] (hS : ρ S = some (.slice (some ⟨id, o, none⟩) n c)) (hB : live m id = some B) (hr : B.rw = true) (hz : Nat.beq B.z sz = true) (hsz : Nat.blt 0 sz = true) (hzl : Nat.beq z.length sz = true)
    (hx : Src P ρ m x xT sz k xs) (hfit : o + n * sz ≤ B.cells.length) (hol : (B.cells.drop o).take (n * sz) = olds) (hcs : olds ++ xs = cs) (hsm : (n + k) * b ≤ 140737488355328 ∧ n + k ≤ 9223372036854775807) (hm' : AppR (some ⟨cs, true, sz⟩) (m.set id none) m' k') (hmz : Nat.beq sz mapZ = false := by rfl) :
    OpOK P ⟨d, .call ⟨.builtin .append, #[S, x], #[sT, xT]⟩, ct, pp, af, g⟩ ρ m (.slice (some ⟨k', 0, none⟩) (n + k) (n + k)) m' := .gen fun F w0 μ A w hd hm ho => by
  obtain ⟨rfl, hk'⟩ := hm'.spec
  have hk' : k' = m.length := by simpa using hk'
  subst hk' hcs
  have hmz' := notMap hmz
  have hmzB : B.z ≠ mapZ := by rw [Nat.eq_of_beq_eq_true hz]; exact hmz'
  have hsz := Nat.blt_eq.mp hsz
  have hzl := Nat.eq_of_beq_eq_true hzl
  obtain ⟨ti, zv, i1, i2, i3, i4, i5⟩ := TyI.ex (P := P) (t := e)
  have hu := Ty.eq (P := P) (t := sT)
  have hvS := ho S _ (by simp [Op.operands, Call.operands]) hS
  obtain ⟨l1, l2, l3, ys, l4, l5, l6, l7, l8⟩ := hx.run hsz (A := A) hm fun u hu => ho x u (by simp [Op.operands, Call.operands]) hu
  obtain ⟨L, q1, q2, _⟩ := hm.blk id B hB
  have hLz : L.z = sz := q2.z.trans (Nat.eq_of_beq_eq_true hz)
  have holl : olds.length = n * sz := by rw [← hol]; simp; omega
  have h00 : (m.set id none).length = m.length := by simp
  have hless : RepM F w0 μ (m.set id none) w := hm.less fun i B h => (live_none h).2
  have hd0 : Dom μ (m.set id none).length := by simpa using hd
  generalize hX : A.eval S = X at hvS
  cases hvS with
  | slcNil =>
    have ho0 : olds = [] := List.eq_nil_of_length_eq_zero (by rw [holl]; simp)
    subst ho0
    rw [List.nil_append]
    simp only [Nat.zero_add] at hsm ⊢
    by_cases hk : k = 0
    · subst hk
      have hx0 : xs = [] := List.eq_nil_of_length_eq_zero (by rw [l3]; simp)
      subst hx0
      have hy0 : ys = [] := List.eq_nil_of_length_eq_zero (by rw [l4]; simp)
      subst hy0
      have hg := hless.ghost hd0 sz
      rw [h00] at hg
      refine ⟨.slice none 0 0, w, _, ?_, Mu.set_ext, by simpa using Mu.set_dom hd, hg, .slcNil⟩
      have hfn := l7 0 (Nat.le_refl _)
      obtain ⟨D, hD, rfl | ⟨e', rfl⟩⟩ := l2 <;> simp [execOp, resolve, invoke, builtin, hX, Builtin.append_, run_und hu, run_und hD, run_size i1, i2, l1, hfn]
    · have hk : 0 < k := by omega
      have hfn := l8 w.drew (Nat.le_refl _) fun _ _ => rfl
      have hrun := run_app_grow (P := P) (ty := ct) (n := 0) (cap := 0) (base := none) (olds := []) hu i1 i4 l2 l1 (show 0 < 0 + k by omega) (by omega) (by rw [i3, Nat.zero_add]; exact growslice_fits hk hsm.1) (by simp [Builtin.firstCells]) (by rw [i2]; exact hfn)
      rw [Nat.zero_add] at hrun
      have hge := grownCap_ge w k 0 e
      have hsize : (([] : List Value).toArray ++ ys.toArray ++ Builtin.zeroCells zv.cells (grownCap w k 0 e - k)).size = (grownCap w k 0 e) * sz := by
        simp only [Array.size_append, List.size_toArray, List.length_nil, Nat.zero_add, l4, size_zeroCells, i5, hzl]
        rw [← Nat.add_mul]
        congr 1; omega
      have hal := hless.drewM.alloc (e := e) (z := sz) (lo := 0) (hi := 0) (cs := xs) (c := ([] : List Value).toArray ++ ys.toArray ++ Builtin.zeroCells zv.cells (grownCap w k 0 e - k)) hd0 (fun j u hu => by
        have hjl : j < ys.length := by
          have := (List.getElem?_eq_some_iff.1 hu).1
          omega
        have hyj : ys[j]? = some ys[j] := List.getElem?_eq_getElem hjl
        refine ⟨ys[j], ?_, l5 _ u _ hu hyj⟩
        rw [Array.getElem?_append_left (by simp; omega)]
        simp) (fun j _ => by omega)
      rw [h00] at hal
      refine ⟨.slice (some ⟨w.heap.size, 0, none⟩) k (grownCap w k 0 e), _, _, ?_, Mu.set_ext, by simpa using Mu.set_dom hd, hal,
        .slc (L := ⟨w.heap.size, 0, _, sz, true⟩) Mu.set_same hge (fun _ => rfl) (fun _ => rfl) (fun _ => by simp only [Nat.zero_add]; rw [hsize]; exact Nat.le_refl _)⟩
      simp [execOp, resolve, invoke, builtin, hX, hrun]
  | slc hL hc hb hof hcap =>
    rename_i cap b' off L1
    rw [q1] at hL; cases hL
    have hb := hb (.inr (q2.rw hr)); subst hb
    have hcap := hcap (q2.rw hr)
    -- the elements that are there
    obtain ⟨os, o1, o2⟩ := exists_list (fun j y => w.cell? ⟨L.b, off + j, none⟩ = some y ∧ ∀ u, olds[j]? = some u → VR μ u y) (n * sz) fun j hj => by
      have hn0 : n ≠ 0 := fun h => by rw [h] at hj; simp at hj
      have := hof hn0; subst this
      have hxj : B.cells[o + j]? = some olds[j] := by
        have : ((B.cells.drop o).take (n * sz))[j]? = some olds[j] := by
          have h0 : olds[j]? = some olds[j] := List.getElem?_eq_getElem (by omega)
          rw [← h0, hol]
        rw [List.getElem?_take, if_pos hj, List.getElem?_drop] at this
        exact this
      obtain ⟨y, y1, y2⟩ := q2.cells.cell hmzB hxj
      refine ⟨y, by rw [Nat.add_assoc]; exact y1, fun u hu => ?_⟩
      rw [List.getElem?_eq_getElem (by omega)] at hu
      cases hu; exact y2
    have hbd : w.heap.size ≤ w.drew.heap.size := Nat.le_refl _
    by_cases hroom : n + k ≤ cap
    · by_cases hN : L.N = 0
      · rw [hLz, hN] at hcap
        obtain rfl : cap = 0 := by
          rcases Nat.eq_zero_or_pos cap with h | h
          · exact h
          · have := Nat.mul_pos h hsz; omega
        obtain rfl : n = 0 := by omega
        obtain rfl : k = 0 := by omega
        obtain rfl : off = 0 := by omega
        have ho0 : olds = [] := List.eq_nil_of_length_eq_zero (by rw [holl]; simp)
        subst ho0
        have hx0 : xs = [] := List.eq_nil_of_length_eq_zero (by rw [l3]; simp)
        subst hx0
        have hy0 : ys = [] := List.eq_nil_of_length_eq_zero (by rw [l4]; simp)
        subst hy0
        have hg := hless.ghost hd0 sz L.b 0
        rw [h00] at hg
        have hrun := run_app_room (P := P) (ty := ct) hu i1 l2 l1 hroom (by rw [i2, l7 0 (Nat.le_refl _), List.take_of_length_le (by simp)]) (w' := w) (a := ⟨L.b, 0, none⟩) (by simp [storeCells])
        refine ⟨.slice (some ⟨L.b, 0, none⟩) 0 0, w, _, ?_, Mu.set_ext, by simpa using Mu.set_dom hd, hg, .slc (L := ⟨L.b, 0, 0, sz, true⟩) Mu.set_same (Nat.le_refl _) (fun _ => rfl) (fun _ => rfl) (fun _ => by simp)⟩
        simp only [Nat.add_zero] at hrun
        simp [execOp, resolve, invoke, builtin, hX, hrun]
      have hrow := (q2.row (.inl (q2.rw hr)) (.inl ⟨hr, hN⟩)).row hmzB
      obtain ⟨cc, et, lo, hi, r1, r2, r3⟩ := hrow
      have hcell : ∀ j, w.cell? ⟨L.b, j, none⟩ = cc[j]? := fun j => by simp [World.cell?, r1]
      have e1 : n * sz + k * sz = (n + k) * sz := (Nat.add_mul _ _ _).symm
      have e2 : (n + k) * sz ≤ cap * sz := Nat.mul_le_mul_right _ hroom
      rw [hLz] at hcap
      have hfitc : off + n * sz + ys.length ≤ cc.size := by rw [l4, r2]; omega
      have hst := run_storeCells_cells (P := P) L.b (off + n * sz) ys 0 w (fun j hj => by
          rw [hcell]; simp; omega) (fun j hj => by
          simp only [World.frozen?, r1]
          have := r3.2 (off + n * sz + 0 + j) (by omega)
          simpa using this) l6
      rw [Nat.add_zero] at hst
      obtain ⟨a1, a2, a3, a4, a5, c', a6, a7, a8, a9⟩ := setCells_heap L.b ys (off + n * sz) w cc r1 hfitc
      have hrun := run_app_room (P := P) (ty := ct) hu i1 l2 l1 hroom (by rw [i2, l7 k (Nat.le_refl _), List.take_of_length_le (by omega)]) (w' := w.setCells L.b (off + n * sz) ys) (a := ⟨L.b, off, none⟩) (by rw [i2, add_off]; exact hst)
      refine ⟨.slice (some ⟨L.b, off, none⟩) (n + k) cap, w.setCells L.b (off + n * sz) ys, _, ?_, Mu.set_ext, by simpa using Mu.set_dom hd,
        hm.replace hd (L' := ⟨L.b, off, L.N, sz, true⟩) (cs := olds ++ xs) hB q1 ⟨hr, hN⟩ rfl rfl a1 a2 a3 a4 a5 ⟨c', et, lo, hi, a6, a7.trans r2, r3.1, fun j hj => r3.2 j (by omega)⟩ fun j x hx => ?_,
        .slc (L := ⟨L.b, off, L.N, sz, true⟩) Mu.set_same hroom (fun _ => rfl) (fun _ => rfl) (fun _ => hcap)⟩
      · simp [execOp, resolve, invoke, builtin, hX, hrun]
      · have hcell' : (w.setCells L.b (off + n * sz) ys).cell? ⟨L.b, off + j, none⟩ = c'[off + j]? := by simp [World.cell?, a6]
        show ∃ y, (w.setCells L.b (off + n * sz) ys).cell? ⟨L.b, off + j, none⟩ = some y ∧ VR μ x y
        rw [hcell']
        rcases Nat.lt_or_ge j (n * sz) with hj | hj
        · rw [List.getElem?_append_left (by omega)] at hx
          have hoj : os[j]? = some os[j] := List.getElem?_eq_getElem (by omega)
          have := o2 j _ hoj
          exact ⟨os[j], by rw [a9 (off + j) (by omega), ← hcell]; exact this.1, this.2 x hx⟩
        · rw [List.getElem?_append_right (by omega), holl] at hx
          have hjl : j - n * sz < ys.length := by
            have := (List.getElem?_eq_some_iff.1 hx).1
            omega
          have hyj : ys[j - n * sz]? = some ys[j - n * sz] := List.getElem?_eq_getElem hjl
          refine ⟨ys[j - n * sz], ?_, l5 _ x _ hx hyj⟩
          have := a8 (j - n * sz) hjl
          rw [show off + n * sz + (j - n * sz) = off + j by omega] at this
          rw [this]; exact hyj
    · have hcl : n ≤ cap := hc
      have hfo : (Builtin.firstCells ti.size n (.slice (some ⟨L.b, off, none⟩) n cap)).run P w.drew = .ok os.toArray w.drew :=
        run_firstCells_some w.drew ti.size n _ n cap os (by rw [o1, i2]) fun j v hv => by rw [add_off]; exact (o2 j v hv).1
      have hfn := l8 w.drew (Nat.le_refl _) fun _ _ => rfl
      have hrun := run_app_grow (P := P) (ty := ct) hu i1 i4 l2 l1 (show cap < n + k by omega) hsm.2 (by rw [i3]; exact growslice_fits (by omega) hsm.1) hfo (by rw [i2]; exact hfn)
      have hge := grownCap_ge w (n + k) cap e
      have hm1 : RepM F w0 μ (m.set id none) w.drew := hm.drewM.less fun i B h => (live_none h).2
      have hsize : (os.toArray ++ ys.toArray ++ Builtin.zeroCells zv.cells (grownCap w (n + k) cap e - (n + k))).size = (grownCap w (n + k) cap e) * sz := by
        simp only [Array.size_append, List.size_toArray, o1, l4, size_zeroCells, i5, hzl]
        rw [← Nat.add_mul, ← Nat.add_mul]
        congr 1; omega
      refine ⟨.slice (some ⟨w.heap.size, 0, none⟩) (n + k) (grownCap w (n + k) cap e), _, _, ?_, ?_, ?_, hm1.alloc (e := e) (z := sz) (lo := 0) (hi := 0) (cs := olds ++ xs) (c := os.toArray ++ ys.toArray ++ Builtin.zeroCells zv.cells (grownCap w (n + k) cap e - (n + k))) (by simpa using hd) (fun j u hu => ?_) (fun j _ => by omega),
        .slc (L := ⟨w.heap.size, 0, (os.toArray ++ ys.toArray ++ Builtin.zeroCells zv.cells (grownCap w (n + k) cap e - (n + k))).size, sz, true⟩) (by rw [h00]; exact Mu.set_same) hge (fun _ => rfl) (fun _ => rfl) (fun _ => by rw [hsize]; exact Nat.le_of_eq (Nat.zero_add _))⟩
      · simp [execOp, resolve, invoke, builtin, hX, hrun]
      · simpa using Mu.set_ext
      · simpa using Mu.set_dom hd
      · rcases Nat.lt_or_ge j (n * sz) with hj | hj
        · rw [List.getElem?_append_left (by omega)] at hu
          have hoj : os[j]? = some os[j] := List.getElem?_eq_getElem (by omega)
          refine ⟨os[j], ?_, (o2 j _ hoj).2 u hu⟩
          rw [Array.getElem?_append_left (by simp; omega), Array.getElem?_append_left (by simp; omega)]
          simp
        · rw [List.getElem?_append_right (by omega), holl] at hu
          have hjl : j - n * sz < ys.length := by
            have := (List.getElem?_eq_some_iff.1 hu).1
            omega
          have hyj : ys[j - n * sz]? = some ys[j - n * sz] := List.getElem?_eq_getElem hjl
          refine ⟨ys[j - n * sz], ?_, l5 _ u _ hu hyj⟩
          rw [Array.getElem?_append_left (by simp; omega), Array.getElem?_append_right (by simp; omega)]
          simp [o1]
/-- append to nil. -/
theorem ok_append_nil {S x : Operand} {sT xT ct e : TypeId} {k sz b : Nat} {z : List Value} {xs : List Value} {m' : Mem} {k' : Nat} [Ty P sT (.slice e)] [TyI P e sz b z] (hS : ρ S = some (.slice none 0 0)) (hsz : Nat.blt 0 sz = true) (hzl : Nat.beq z.length sz = true)
    (hx : Src P ρ m x xT sz k xs) (hk : 0 < k) (hsm : k * b ≤ 140737488355328 ∧ k ≤ 9223372036854775807) (hm' : AppR (some ⟨xs, true, sz⟩) m m' k') (hmz : Nat.beq sz mapZ = false := by rfl) :
    OpOK P ⟨d, .call ⟨.builtin .append, #[S, x], #[sT, xT]⟩, ct, pp, af, g⟩ ρ m (.slice (some ⟨k', 0, none⟩) k k) m' := .gen fun F w0 μ A w hd hm ho => by
  have hmz' := notMap hmz
  obtain ⟨rfl, rfl⟩ := hm'.spec
  have hsz := Nat.blt_eq.mp hsz
  have hzl := Nat.eq_of_beq_eq_true hzl
  obtain ⟨ti, zv, i1, i2, i3, i4, i5⟩ := TyI.ex (P := P) (t := e)
  have hu := Ty.eq (P := P) (t := sT)
  have hvS := ho S _ (by simp [Op.operands, Call.operands]) hS
  obtain ⟨l1, l2, l3, ys, l4, l5, l6, l7, l8⟩ := hx.run hsz (A := A) hm fun u hu => ho x u (by simp [Op.operands, Call.operands]) hu
  generalize hX : A.eval S = X at hvS
  cases hvS
  have hfn := l8 w.drew (Nat.le_refl _) fun _ _ => rfl
  have hrun := run_app_grow (P := P) (ty := ct) (n := 0) (cap := 0) (base := none) (olds := []) hu i1 i4 l2 l1 (show 0 < 0 + k by omega) (by omega) (by rw [i3, Nat.zero_add]; exact growslice_fits hk hsm.1) (by simp [Builtin.firstCells]) (by rw [i2]; exact hfn)
  rw [Nat.zero_add] at hrun
  have hge := grownCap_ge w k 0 e
  have hsize : (([] : List Value).toArray ++ ys.toArray ++ Builtin.zeroCells zv.cells (grownCap w k 0 e - k)).size = (grownCap w k 0 e) * sz := by
    simp only [Array.size_append, List.size_toArray, List.length_nil, Nat.zero_add, l4, size_zeroCells, i5, hzl]
    rw [← Nat.add_mul]
    congr 1; omega
  refine ⟨.slice (some ⟨w.heap.size, 0, none⟩) k (grownCap w k 0 e), _, _, ?_, Mu.set_ext, by simpa using Mu.set_dom hd, hm.drewM.alloc (e := e) (z := sz) (lo := 0) (hi := 0) (cs := xs) (c := ([] : List Value).toArray ++ ys.toArray ++ Builtin.zeroCells zv.cells (grownCap w k 0 e - k)) hd (fun j u hu => ?_) (fun j _ => by omega),
    .slc (L := ⟨w.heap.size, 0, _, sz, true⟩) Mu.set_same hge (fun _ => rfl) (fun _ => rfl) (fun _ => by simp only [Nat.zero_add]; rw [hsize]; exact Nat.le_refl _)⟩
  · simp [execOp, resolve, invoke, builtin, hX, hrun]
  · have hjl : j < ys.length := by
      have := (List.getElem?_eq_some_iff.1 hu).1
      omega
    have hyj : ys[j]? = some ys[j] := List.getElem?_eq_getElem hjl
    refine ⟨ys[j], ?_, l5 _ u _ hu hyj⟩
    rw [Array.getElem?_append_left (by simp; omega)]
    simp
/-- Nothing is added to nil. -/
theorem ok_append_none {S x : Operand} {sT xT ct e : TypeId} {sz b : Nat} {z : List Value} {xs : List Value} [Ty P sT (.slice e)] [TyI P e sz b z] (hS : ρ S = some (.slice none 0 0)) (hsz : Nat.blt 0 sz = true) (hx : Src P ρ m x xT sz 0 xs) :
    OpOK P ⟨d, .call ⟨.builtin .append, #[S, x], #[sT, xT]⟩, ct, pp, af, g⟩ ρ m (.slice none 0 0) m := .val fun _ _ μ A w _ hm ho => by
  have hsz := Nat.blt_eq.mp hsz
  obtain ⟨ti, zv, i1, i2, i3, i4, i5⟩ := TyI.ex (P := P) (t := e)
  have hu := Ty.eq (P := P) (t := sT)
  have hvS := ho S _ (by simp [Op.operands, Call.operands]) hS
  obtain ⟨l1, l2, l3, ys, l4, l5, l6, l7, l8⟩ := hx.run hsz (A := A) hm fun u hu => ho x u (by simp [Op.operands, Call.operands]) hu
  generalize hX : A.eval S = X at hvS
  cases hvS
  have hy : ys = [] := List.eq_nil_of_length_eq_zero (by simpa using l4)
  have hf := l7 0 (Nat.le_refl _)
  subst hy
  obtain ⟨D, hD, rfl | ⟨e', rfl⟩⟩ := l2 <;>
    exact ⟨.slice none 0 0, by simp [execOp, resolve, invoke, builtin, hX, Builtin.append_, run_und hu, run_und hD, run_size i1, l1, i2, hf], .snil⟩
/-- copy: as many as fit. -/
theorem ok_copy {D x : Operand} {dT xT ct e : TypeId} {id o n c k sz b : Nat} {z : List Value} {bc : List Value} {z0 : Nat} {xs cs : List Value} {m' : Mem} [Ty P dT (.slice e)] [TyI P e sz b z] (hD : ρ D = some (.slice (some ⟨id, o, none⟩) n c)) (hB : live m id = some ⟨bc, true, z0⟩) (hsz : Nat.blt 0 sz = true)
    (hx : Src P ρ m x xT sz k xs) (hpos : 0 < min k n) (hfit : o + (min k n) * sz ≤ bc.length) (hcs : bc.take o ++ xs.take ((min k n) * sz) ++ bc.drop (o + (min k n) * sz) = cs) (hm' : SetR (some ⟨cs, true, z0⟩) m id m') (hmz : Nat.beq z0 mapZ = false := by rfl) :
    OpOK P ⟨d, .call ⟨.builtin .copy, #[D, x], #[dT, xT]⟩, ct, pp, af, g⟩ ρ m (.int .i64 (min k n : Nat)) m' := .gen fun F w0 μ A w hd hm ho => by
  have hm' := hm'.spec
  subst hm' hcs
  have hsz := Nat.blt_eq.mp hsz
  obtain ⟨ti, zv, i1, i2, i3, i4, i5⟩ := TyI.ex (P := P) (t := e)
  have hu := Ty.eq (P := P) (t := dT)
  have hvD := ho D _ (by simp [Op.operands, Call.operands]) hD
  obtain ⟨l1, l2, l3, ys, l4, l5, l6, l7, l8⟩ := hx.run hsz (A := A) hm fun u hu => ho x u (by simp [Op.operands, Call.operands]) hu
  obtain ⟨L, q1, q2, _⟩ := hm.blk id _ hB
  generalize hX : A.eval D = X at hvD
  cases hvD with
  | slc hL hc hb hof hcap =>
    rename_i cap b' off L1
    rw [q1] at hL; cases hL
    have hn0 : n ≠ 0 := by omega
    have hb := hb (.inl hn0); subst hb
    have := hof hn0; subst this
    have hmk : (min k n) * sz ≤ k * sz := Nat.mul_le_mul_right _ (by omega)
    have hxl : (xs.take ((min k n) * sz)).length = (min k n) * sz := by rw [List.length_take]; omega
    have hyl : (ys.take ((min k n) * sz)).length = (min k n) * sz := by rw [List.length_take]; omega
    have hsp : SpliceR bc o (xs.take ((min k n) * sz)) (bc.take o ++ xs.take ((min k n) * sz) ++ bc.drop (o + (min k n) * sz)) := by
      have := SpliceR.of (l := bc) (o := o) (vs := xs.take ((min k n) * sz)) (by rw [hxl]; exact hfit)
      rwa [hxl] at this
    obtain ⟨w', s1, s2⟩ := hm.storeN (P := P) hB (notMap hmz) rfl q1 hsp (by rw [hxl]; exact Nat.mul_pos hpos hsz) (ys := ys.take ((min k n) * sz)) (by rw [hxl, hyl]) (fun j u v hu hv => by
        rw [List.getElem?_take] at hu hv
        split at hu
        · rw [if_pos (by assumption)] at hv
          exact l5 j u v hu hv
        · cases hu) (fun y hy => l6 y (List.mem_of_mem_take hy))
    have hfc := l7 (min k n) (by omega)
    have hmin : Nat.min k n = min k n := rfl
    refine ⟨.int .i64 (min k n : Nat), w', μ, ?_, Ext.refl _ _, by simpa using hd, s2, .int _ _⟩
    simp [execOp, resolve, invoke, builtin, hX, Builtin.copy_, run_und hu, run_size i1, i2, l1, hmin, hfc, s1, goInt]
  | slcNil => simp at hpos
/-! ### bytes and strings -/
theorem ok_bytes_str {src dst : TypeId} {x : Operand} {id o n c : Nat} {e : TypeId} {B : Blk} {l : List UInt8} [Ty P src (.slice e)] [Ty P e (.int .u8)] [Ty P dst .string] (hx : ρ x = some (.slice (some ⟨id, o, none⟩) n c)) (hB : live m id = some B) (hfit : o + n ≤ B.cells.length) (hl : (B.cells.drop o).take n = l.map u8v) (hmz : Nat.beq B.z mapZ = false := by rfl) :
    OpOK P ⟨d, .convert src dst x, t, pp, af, g⟩ ρ m (.string ⟨l.toArray⟩) m := .val fun _ _ μ A w _ hm ho => by
  have hv := ho x _ (by simp [Op.operands]) hx
  have hll : l.length = n := by have := congrArg List.length hl; simp at this; omega
  generalize hX : A.eval x = X at hv
  cases hv with
  | slc hL hc hb hof hcap =>
    rename_i cap b off L
    have hcells := hm.cells hB (notMap hmz) hL
    have hld : (loadCells ⟨b, off, none⟩ n).run P w = .ok ((l.map fun x => (x.toNat : Int)).map (Value.int .u8)).toArray w := by
      have hlist : ((l.map fun x => (x.toNat : Int)).map (Value.int .u8)).length = n := by simp [hll]
      rw [← hlist]
      refine run_loadCells_list w _ _ fun j v hvj => ?_
      have hj : j < n := by have := (List.getElem?_eq_some_iff.1 hvj).1; rw [hlist] at this; exact this
      have := hb (.inl (by omega)); subst this
      have := hof (by omega); subst this
      have hxj : B.cells[o + j]? = some v := by
        have h0 : ((B.cells.drop o).take n)[j]? = some v := by rw [hl]; simpa [u8v] using hvj
        rw [List.getElem?_take, if_pos hj, List.getElem?_drop] at h0
        exact h0
      obtain ⟨y, y1, y2⟩ := hcells (o + j) v hxj
      rw [add_off, Nat.add_assoc, y1]
      simp at hvj
      obtain ⟨b, _, rfl⟩ := hvj
      rw [y2.int']
    have hfold : ∀ (l : List UInt8) (s : ByteArray), ((l.map fun x => (x.toNat : Int)).foldl (fun r n => r.push (UInt8.ofNat n.toNat)) s) = ⟨s.data ++ l.toArray⟩ := by
      intro l
      induction l with
      | nil => intro s; simp
      | cons b l ih =>
        intro s
        simp only [List.map_cons, List.foldl_cons, Int.toNat_natCast, UInt8.ofNat_toNat]
        rw [ih]
        simp [ByteArray.push]
    have hrun := run_bytesToString w ⟨b, off, none⟩ n cap _ hld
    rw [hfold] at hrun
    refine ⟨.string ⟨l.toArray⟩, ?_, .string _⟩
    simp only [execOp, hX, convert, Sem.run_bind, run_und (Ty.eq (P := P) (t := src)), run_und (Ty.eq (P := P) (t := dst)), run_und (Ty.eq (P := P) (t := e)), Result.andThen_ok, hrun, Sem.run_pure]
    have e0 : (ByteArray.empty.data ++ l.toArray) = l.toArray := by
      apply Array.ext'
      rw [Array.toList_append]
      rfl
    rw [e0]
  | slcNil =>
    obtain rfl : l = [] := List.eq_nil_of_length_eq_zero hll
    exact ⟨.string ⟨#[]⟩, by simp only [execOp, hX, convert, Sem.run_bind, run_und (Ty.eq (P := P) (t := src)), run_und (Ty.eq (P := P) (t := dst)), run_und (Ty.eq (P := P) (t := e)), Result.andThen_ok]; rfl, .string _⟩
theorem ok_nil_str {src dst : TypeId} {x : Operand} {e : TypeId} [Ty P src (.slice e)] [Ty P e (.int .u8)] [Ty P dst .string] (hx : ρ x = some (.slice none 0 0)) : OpOK P ⟨d, .convert src dst x, t, pp, af, g⟩ ρ m (.string ⟨#[]⟩) m := .val fun _ _ μ A w _ hm ho => by
  have hv := ho x _ (by simp [Op.operands]) hx
  generalize hX : A.eval x = X at hv
  cases hv
  exact ⟨.string ⟨#[]⟩, by simp [execOp, hX, convert, run_und (Ty.eq (P := P) (t := src)), run_und (Ty.eq (P := P) (t := dst)), run_und (Ty.eq (P := P) (t := e)), Conv.bytesToString]; rfl, .string _⟩
end
end Go.Proofs.YtdenooeaiicheaaGreat.Av
/- Walking in numbers of one's own: equality, function values. -/
namespace Go.Proofs.YtdenooeaiicheaaGreat.Av
/-- Two values of one cell are equal exactly if p. -/
inductive Eq0 (P : Program) (t : TypeId) : Value → Value → Prop → Prop
  | int {k k' a b} : P.underlying t = some (.int k') → Eq0 P t (.int k a) (.int k b) (a = b)
  | bool {a b} : P.underlying t = some .bool → Eq0 P t (.bool a) (.bool b) (a = b)
  | string {a b} : P.underlying t = some .string → Eq0 P t (.string a) (.string b) (a = b)
inductive EqFs (P : Program) (E : TypeId → Value → Value → Prop → Prop) (xs ys : List Value) : List (TypeId × Nat) → Prop → Prop
  | nil : EqFs P E xs ys [] True
  | cons {t o x y p l q} : PartR P t xs o x → PartR P t ys o y → E t x y p → EqFs P E xs ys l q → EqFs P E xs ys ((t, o) :: l) (p ∧ q)
/-- No field is blank; the struct is compared field by field. -/
class TyE (P : Program) (t : TypeId) : Prop where
  eq : ∃ gs : Array Field, P.underlying t = some (.struct gs) ∧ (gs.toList.all fun f => f.name != "_") = true ∧ P.stoodInHeld t = false ∧ P.eqGuardType P.depth t = false
def EqL (P : Program) : Nat → TypeId → Value → Value → Prop → Prop
  | 0, t, x, y, p => Eq0 P t x y p
  | n + 1, t, x, y, p => Eq0 P t x y p ∨ ∃ xs ys fs, x = .agg xs ∧ y = .agg ys ∧ TyE P t ∧ TyF P t fs ∧ EqFs P (EqL P n) xs.toList ys.toList fs p
open Classical in
theorem Eq0.run {P : Program} {t : TypeId} {x y : Value} {p : Prop} (h : Eq0 P t x y p) {μ : Mu} {X Y : Value} (hx : VR μ x X) (hy : VR μ y Y) (d : Nat) (w : World) : (Op.equalIn (d + 1) t X Y).run P w = .ok (decide p) w := by
  cases h with
  | int hu =>
    rename_i k k' a b
    rw [hx.int', hy.int', run_equalIn_int w d t _ _ _ _ hu]
    congr 1
    by_cases h : a = b <;> simp [h]
  | bool hu =>
    rename_i a b
    rw [hx.bool', hy.bool', run_equalIn_bool' w d t _ _ hu]
    congr 1
    cases a <;> cases b <;> simp
  | string hu =>
    rename_i a b
    rw [hx.string', hy.string', run_equalIn_string w d t _ _ hu]
    congr 1
    rw [bytes_eq]
    by_cases h : a = b <;> simp [h]
open Classical in
theorem EqFs.run {P : Program} {n d : Nat} (hE : ∀ {t x y p μ X Y}, EqL P n t x y p → VR μ x X → VR μ y Y → ∀ w, (Op.equalIn d t X Y).run P w = .ok (decide p) w) {μ : Mu} {xs ys Xs Ys : Array Value} (hxs : xs.size = Xs.size) (hx : ∀ (i : Nat) u v, xs[i]? = some u → Xs[i]? = some v → VR μ u v) (hys : ys.size = Ys.size) (hy : ∀ (i : Nat) u v, ys[i]? = some u → Ys[i]? = some v → VR μ u v) :
    ∀ (gs : List Field) {fs p}, gs.map (fun f => (f.type, f.offset)) = fs → (gs.all fun f => f.name != "_") = true → EqFs P (EqL P n) xs.toList ys.toList fs p → ∀ w, (Op.eqFields d Xs Ys gs).run P w = .ok (decide p) w
  | [], fs, p, hfs, _, h, w => by
    subst hfs
    cases h
    simp [Op.eqFields]
  | f :: gs, fs, p, hfs, hb, h, w => by
    subst hfs
    rw [List.map_cons] at h
    cases h with
    | cons h1 h2 h3 h4 =>
      rename_i x y p q
      simp only [List.all_cons, Bool.and_eq_true, bne_iff_ne] at hb
      obtain ⟨X, e1, e2⟩ := run_part hxs hx h1 w
      obtain ⟨Y, e3, e4⟩ := run_part hys hy h2 w
      have ih := EqFs.run hE hxs hx hys hy gs rfl hb.2 h4 w
      simp only [Op.eqFields, hb.1, ne_eq, not_false_eq_true, if_true, Sem.run_bind, e1, e3, Result.andThen_ok, hE h3 e2 e4, Sem.run_ite]
      by_cases hp : p
      · simp [hp, ih]
      · simp [hp]
open Classical in
theorem EqL.run {P : Program} : ∀ (n : Nat) {t : TypeId} {x y : Value} {p : Prop}, EqL P n t x y p → ∀ {μ : Mu} {X Y : Value}, VR μ x X → VR μ y Y → ∀ (d : Nat), n < d → ∀ w, (Op.equalIn d t X Y).run P w = .ok (decide p) w
  | 0, t, x, y, p, h, μ, X, Y, hx, hy, d, hd, w => by
    obtain ⟨d, rfl⟩ : ∃ d', d = d' + 1 := ⟨d - 1, by omega⟩
    exact Eq0.run h hx hy d w
  | n + 1, t, x, y, p, h, μ, X, Y, hx, hy, d, hd, w => by
    obtain ⟨d, rfl⟩ : ∃ d', d = d' + 1 := ⟨d - 1, by omega⟩
    rcases h with h | ⟨xs, ys, fs, rfl, rfl, hE, hF, h⟩
    · exact Eq0.run h hx hy d w
    · obtain ⟨gs, h1, h2, h3, h4⟩ := hE.eq
      obtain ⟨gs', k1, k2⟩ := hF.eq
      rw [h1] at k1
      cases k1
      obtain ⟨Xs, rfl, a1, a2⟩ := hx.agg'
      obtain ⟨Ys, rfl, b1, b2⟩ := hy.agg'
      have e : P.fieldsOf t = gs := by simp [Program.fieldsOf, h1]
      rw [run_equalIn_agg w d t Xs Ys (by rw [e]; exact h1) h3, e]
      exact EqFs.run (fun h hx hy w => EqL.run n h hx hy d (by omega) w) a1 a2 b1 b2 gs.toList k2 h2 h w
section
variable {P : Program} {ρ : Operand → Option Value} {m : Mem} {d : Option Tmp} {t : TypeId} {pp : String} {af : Array Edge} {g : Option (Nat × Bool)}
open Classical in
theorem ok_agg_eql {xt yt : TypeId} {x y : Operand} {xs ys : Array Value} {fs : List (TypeId × Nat)} {p : Prop} [hE : TyE P xt] [hF : TyF P xt fs] (hx : ρ x = some (.agg xs)) (hy : ρ y = some (.agg ys)) (h : EqFs P (EqL P 3) xs.toList ys.toList fs p) :
    OpOK P ⟨d, .binOp .eql xt x y yt, t, pp, af, g⟩ ρ m (.bool (decide p)) m := .val fun _ _ μ A w _ _ ho => by
  have h1 := ho x _ (by simp [Op.operands]) hx
  have h2 := ho y _ (by simp [Op.operands]) hy
  obtain ⟨Xs, e1, _, _⟩ := h1.agg'
  obtain ⟨Ys, e2, _, _⟩ := h2.agg'
  have hr := EqL.run 4 (P := P) (t := xt) (x := .agg xs) (y := .agg ys) (p := p) (.inr ⟨xs, ys, fs, rfl, rfl, hE, hF, h⟩) h1 h2 10000 (by omega) w
  obtain ⟨gs, q1, q2, q3, q4⟩ := hE.eq
  rw [e1, e2] at hr
  refine ⟨_, ?_, .bool _⟩
  simp [execOp, e1, e2, run_eqGuard_agg w .eql xt x y Xs Ys q4, run_eql_struct, hr]
open Classical in
theorem ok_agg_neq {xt yt : TypeId} {x y : Operand} {xs ys : Array Value} {fs : List (TypeId × Nat)} {p : Prop} [hE : TyE P xt] [hF : TyF P xt fs] (hx : ρ x = some (.agg xs)) (hy : ρ y = some (.agg ys)) (h : EqFs P (EqL P 3) xs.toList ys.toList fs p) :
    OpOK P ⟨d, .binOp .neq xt x y yt, t, pp, af, g⟩ ρ m (.bool (decide (¬ p))) m := .val fun _ _ μ A w _ _ ho => by
  have h1 := ho x _ (by simp [Op.operands]) hx
  have h2 := ho y _ (by simp [Op.operands]) hy
  obtain ⟨Xs, e1, _, _⟩ := h1.agg'
  obtain ⟨Ys, e2, _, _⟩ := h2.agg'
  have hr := EqL.run 4 (P := P) (t := xt) (x := .agg xs) (y := .agg ys) (p := p) (.inr ⟨xs, ys, fs, rfl, rfl, hE, hF, h⟩) h1 h2 10000 (by omega) w
  obtain ⟨gs, q1, q2, q3, q4⟩ := hE.eq
  rw [e1, e2] at hr
  refine ⟨_, ?_, .bool _⟩
  by_cases hp : p <;> simp [execOp, e1, e2, run_eqGuard_agg w .neq xt x y Xs Ys q4, run_neq_struct, hr, hp]
theorem ok_bool_eql {xt yt : TypeId} {x y : Operand} {a b : Bool} [Ty P xt .bool] (hx : ρ x = some (.bool a)) (hy : ρ y = some (.bool b)) : OpOK P ⟨d, .binOp .eql xt x y yt, t, pp, af, g⟩ ρ m (.bool (decide (a = b))) m := .val fun _ _ μ A w _ _ ho => by
  have h1 := (ho x _ (by simp [Op.operands]) hx).bool'
  have h2 := (ho y _ (by simp [Op.operands]) hy).bool'
  refine ⟨_, ?_, .bool _⟩
  have := run_equalIn_bool' w 9999 xt a b (Ty.eq (P := P) (t := xt))
  simp only [execOp, h1, h2, eqGuard, binOp, Op.equal, Op.maxDepth]
  split
  · simp [this]; cases a <;> cases b <;> rfl
  · simp [this]; cases a <;> cases b <;> rfl
theorem ok_bool_neq {xt yt : TypeId} {x y : Operand} {a b : Bool} [Ty P xt .bool] (hx : ρ x = some (.bool a)) (hy : ρ y = some (.bool b)) : OpOK P ⟨d, .binOp .neq xt x y yt, t, pp, af, g⟩ ρ m (.bool (decide (¬ a = b))) m := .val fun _ _ μ A w _ _ ho => by
  have h1 := (ho x _ (by simp [Op.operands]) hx).bool'
  have h2 := (ho y _ (by simp [Op.operands]) hy).bool'
  refine ⟨_, ?_, .bool _⟩
  have := run_equalIn_bool' w 9999 xt a b (Ty.eq (P := P) (t := xt))
  simp only [execOp, h1, h2, eqGuard, binOp, Op.equal, Op.maxDepth]
  split
  · simp [this]; cases a <;> cases b <;> rfl
  · simp [this]; cases a <;> cases b <;> rfl
theorem run_equalIn_ptr {P : Program} (w : World) (d : Nat) (t e : TypeId) (a : Addr) (h : P.underlying t = some (.pointer e)) : (Op.equalIn (d + 1) t (.pointer (some a)) (.pointer none)).run P w = .ok false w := by
  simp only [Op.equalIn, Sem.run_bind, run_und h, Result.andThen_ok, Sem.run_pure]
/-- A pointer that is there, against nil. -/
theorem ok_ptr_eql {xt yt e : TypeId} {x y : Operand} {ad : Addr} [Ty P xt (.pointer e)] (hx : ρ x = some (.pointer (some ad))) (hy : ρ y = some (.pointer none)) : OpOK P ⟨d, .binOp .eql xt x y yt, t, pp, af, g⟩ ρ m (.bool false) m := .val fun _ _ μ A w _ _ ho => by
  have h1 := ho x _ (by simp [Op.operands]) hx
  have h2 := ho y _ (by simp [Op.operands]) hy
  generalize hX : A.eval x = X at h1
  generalize hY : A.eval y = Y at h2
  cases h1; cases h2
  have hr := fun a => run_equalIn_ptr w 9999 xt e a (Ty.eq (P := P) (t := xt))
  refine ⟨_, ?_, .bool _⟩
  simp only [execOp, hX, hY, eqGuard, binOp, Op.equal, Op.maxDepth]
  split <;> simp [hr]
theorem ok_ptr_neq {xt yt e : TypeId} {x y : Operand} {ad : Addr} [Ty P xt (.pointer e)] (hx : ρ x = some (.pointer (some ad))) (hy : ρ y = some (.pointer none)) : OpOK P ⟨d, .binOp .neq xt x y yt, t, pp, af, g⟩ ρ m (.bool true) m := .val fun _ _ μ A w _ _ ho => by
  have h1 := ho x _ (by simp [Op.operands]) hx
  have h2 := ho y _ (by simp [Op.operands]) hy
  generalize hX : A.eval x = X at h1
  generalize hY : A.eval y = Y at h2
  cases h1; cases h2
  have hr := fun a => run_equalIn_ptr w 9999 xt e a (Ty.eq (P := P) (t := xt))
  refine ⟨_, ?_, .bool _⟩
  simp only [execOp, hX, hY, eqGuard, binOp, Op.equal, Op.maxDepth]
  split <;> simp [hr]
end
end Go.Proofs.YtdenooeaiicheaaGreat.Av
/- Walking in numbers of one's own: steps, calls, functions. -/
namespace Go.Proofs.YtdenooeaiicheaaGreat.Av
section
variable {P : Program} {ops : Array Oper} {l : List Oper} {σ : Slots} {m m' : Mem} {K : Slots → Mem → Prop} {d : Option Tmp} {t : TypeId} {pp : String} {af : Array Edge}
theorem run_nil (h : K σ m) : Run P ops K [] σ m := .nil (Sub.refl σ) h
theorem Sub.trans {a b c : Slots} (h : Sub a b) (k : Sub b c) : Sub a c := fun t v x => k t v (h t v x)
theorem Sub.cons {a b : Slots} (h : Sub a b) (d : Tmp) (v : Value) : Sub ((d, v) :: a) ((d, v) :: b) := fun t u x => by
  simp only [look] at x ⊢
  cases hb : Nat.beq d t with
  | false => rw [hb] at x; exact h t u x
  | true => rw [hb] at x; exact x
theorem Sub.put {a b : Slots} (h : Sub a b) (d : Option Tmp) (v : Value) : Sub (Av.put a d v) (Av.put b d v) := by
  cases d with
  | none => exact h
  | some d => exact h.cons d v
theorem Sub.ev {a b : Slots} (h : Sub a b) {x : Operand} {v : Value} (hx : Av.ev a x = some v) : Av.ev b x = some v := by
  cases x with
  | tmp t => exact h t v hx
  | _ => exact hx
theorem OpOK.sub {o : Oper} {σ σ' : Slots} {v : Value} (h : OpOK P o (ev σ) m v m') (hs : Sub σ σ') : OpOK P o (ev σ') m v m' :=
  ⟨fun F w0 μ a w K Q hd hm ho hk => h.ok F w0 μ a w K Q hd hm (fun x u hx hu => ho x u hx (hs.ev hu)) hk⟩
theorem Run.weaken {σ σ' : Slots} (h : Run P ops K l σ m) (hs : Sub σ σ') : Run P ops K l σ' m := by
  cases h with
  | nil h1 h2 => exact .nil (h1.trans hs) h2
  | yes h1 h2 h3 h4 h5 => exact .yes (h1.trans hs) h2 h3 h4 h5
  | no h1 h2 h3 => exact .no (h1.trans hs) h2 h3
  | alt h1 h2 h3 h4 h5 => exact .alt (h1.trans hs) h2 h3 h4 h5
theorem OpAlt.sub {o : Oper} {σ σ' : Slots} {v1 v2 : Value} (h : OpAlt P o (ev σ) m v1 v2) (hs : Sub σ σ') : OpAlt P o (ev σ') m v1 v2 :=
  ⟨fun F w0 μ a w hd hm ho => h.ok F w0 μ a w hd hm fun x u hx hu => ho x u hx (hs.ev hu)⟩
theorem run_step {op : Op} {v : Value} (h : OpOK P ⟨d, op, t, pp, af, none⟩ (ev σ) m v m') (hl : m.length ≤ m'.length) (k : Run P ops K l (put σ d v) m') : Run P ops K (⟨d, op, t, pp, af, none⟩ :: l) σ m :=
  .yes (Sub.refl σ) rfl hl h k
theorem run_pure {op : Op} {v : Value} (h : OpOK P ⟨d, op, t, pp, af, none⟩ (ev σ) m v m) (k : Run P ops K l (put σ d v) m) : Run P ops K (⟨d, op, t, pp, af, none⟩ :: l) σ m :=
  .yes (Sub.refl σ) rfl (Nat.le_refl _) h k
theorem look_same {dj : Tmp} {c : Bool} (h2 : look σ dj = some (.bool c)) : Sub ((dj, .bool c) :: σ) σ := fun t v h => by
  simp only [look] at h
  cases hb : Nat.beq dj t with
  | false => rw [hb] at h; exact h
  | true => rw [hb] at h; rw [← Nat.eq_of_beq_eq_true hb, h2]; exact h
theorem look_head {dj : Tmp} {v : Value} : look ((dj, v) :: σ) dj = some v := by simp only [look, show Nat.beq dj dj = true from Nat.beq_refl dj]; rfl
/-- An operation under a test: it is wanted, or not. -/
theorem run_guard {op : Op} {j : Nat} {b c : Bool} {dj : Tmp} (h1 : (ops[j]?).bind (·.dst) = some dj) (h2 : look σ dj = some (.bool c))
    (ht : c = b → Run P ops K (⟨d, op, t, pp, af, none⟩ :: l) ((dj, .bool b) :: σ) m) (hf : c = !b → Run P ops K l (put ((dj, .bool (!b)) :: σ) d undef) m) : Run P ops K (⟨d, op, t, pp, af, some (j, b)⟩ :: l) σ m := by
  by_cases hcb : c = b
  · have h := ht hcb
    subst hcb
    cases h with
    | yes hs hw hl hop hr =>
      rename_i σ1 v m'
      have hsub : Sub σ1 ((dj, .bool c) :: σ1) := fun t v h => by
        have := hs t v h
        simp only [look] at this ⊢
        cases hb : Nat.beq dj t with
        | false => exact h
        | true => rw [hb] at this; exact this
      exact .yes ((hs.cons dj _).trans ((look_same look_head).trans (look_same h2))) ⟨dj, .bool c, h1, look_head, .inl ⟨c, rfl, by simp⟩⟩ hl ⟨(hop.sub hsub).ok⟩ (hr.weaken (hsub.put _ _))
    | no hs hw => cases hw
    | alt hs hw hop hr1 hr2 =>
      rename_i σ1 v1 v2
      have hsub : Sub σ1 ((dj, .bool c) :: σ1) := fun t v h => by
        have := hs t v h
        simp only [look] at this ⊢
        cases hb : Nat.beq dj t with
        | false => exact h
        | true => rw [hb] at this; exact this
      exact .alt ((hs.cons dj _).trans ((look_same look_head).trans (look_same h2))) ⟨dj, .bool c, h1, look_head, .inl ⟨c, rfl, by simp⟩⟩ ⟨(hop.sub hsub).ok⟩ (hr1.weaken (hsub.put _ _)) (hr2.weaken (hsub.put _ _))
  · have hcb : c = !b := by cases c <;> cases b <;> simp_all
    refine .no (look_same h2) ⟨dj, .bool c, h1, look_head, .inl ⟨c, rfl, by subst hcb; cases b <;> rfl⟩⟩ ?_
    rw [hcb]
    exact hf hcb
theorem run_undef {op : Op} {j : Nat} {b : Bool} {dj : Tmp} (h1 : (ops[j]?).bind (·.dst) = some dj) (h2 : look σ dj = some undef)
    (k : Run P ops K l (put σ d undef) m) : Run P ops K (⟨d, op, t, pp, af, some (j, b)⟩ :: l) σ m :=
  .no (Sub.refl σ) ⟨dj, undef, h1, h2, .inr ⟨rfl, rfl⟩⟩ k
theorem run_want {op : Op} {j : Nat} {b : Bool} {dj : Tmp} (h1 : (ops[j]?).bind (·.dst) = some dj) (h2 : look σ dj = some (.bool b))
    (h : Run P ops K (⟨d, op, t, pp, af, none⟩ :: l) σ m) : Run P ops K (⟨d, op, t, pp, af, some (j, b)⟩ :: l) σ m :=
  run_guard h1 h2 (fun _ => h.weaken ((Sub.refl σ).trans fun t v hv => by
    simp only [look]
    cases hb : Nat.beq dj t with
    | false => exact hv
    | true => rw [← Nat.eq_of_beq_eq_true hb] at hv; rw [h2] at hv; exact hv)) fun e => absurd e (by cases b <;> simp)
theorem run_unwant {op : Op} {j : Nat} {b : Bool} {dj : Tmp} (h1 : (ops[j]?).bind (·.dst) = some dj) (h2 : look σ dj = some (.bool (!b)))
    (h : Run P ops K l (put σ d undef) m) : Run P ops K (⟨d, op, t, pp, af, some (j, b)⟩ :: l) σ m :=
  run_guard h1 h2 (fun e => absurd e (by cases b <;> simp)) fun _ => h.weaken (Sub.put (fun t v hv => by
    simp only [look]
    cases hb : Nat.beq dj t with
    | false => exact hv
    | true => rw [← Nat.eq_of_beq_eq_true hb] at hv; rw [h2] at hv; exact hv) _ _)
theorem run_guard1 {op : Op} {j : Nat} {dj : Tmp} {p : Prop} [Decidable p] (h1 : (ops[j]?).bind (·.dst) = some dj) (h2 : look σ dj = some (.bool (decide p)))
    (ht : p → Run P ops K (⟨d, op, t, pp, af, none⟩ :: l) ((dj, .bool true) :: σ) m) (hf : ¬ p → Run P ops K l (put ((dj, .bool false) :: σ) d undef) m) : Run P ops K (⟨d, op, t, pp, af, some (j, true)⟩ :: l) σ m :=
  run_guard h1 h2 (fun e => ht (of_decide_eq_true e)) fun e => hf (of_decide_eq_false e)
theorem run_guard0 {op : Op} {j : Nat} {dj : Tmp} {p : Prop} [Decidable p] (h1 : (ops[j]?).bind (·.dst) = some dj) (h2 : look σ dj = some (.bool (decide p)))
    (ht : ¬ p → Run P ops K (⟨d, op, t, pp, af, none⟩ :: l) ((dj, .bool false) :: σ) m) (hf : p → Run P ops K l (put ((dj, .bool true) :: σ) d undef) m) : Run P ops K (⟨d, op, t, pp, af, some (j, false)⟩ :: l) σ m :=
  run_guard h1 h2 (fun e => ht (of_decide_eq_false e)) fun e => hf (of_decide_eq_true e)
theorem aw_cond1 {nt n0 : Nat} {Q : Exit → Slots → Mem → Prop} {c : Operand} {x y : Code} {p : Prop} [Decidable p] (hc : ev σ c = some (.bool (decide p))) (h1 : p → AW P nt n0 x Q σ m) (h0 : ¬ p → AW P nt n0 y Q σ m) : AW P nt n0 (.cond c x y) Q σ m :=
  aw_cond hc (fun e => h1 (of_decide_eq_true e)) fun e => h0 (of_decide_eq_false e)
theorem aw_cond_t {nt n0 : Nat} {Q : Exit → Slots → Mem → Prop} {c : Operand} {x y : Code} (hc : ev σ c = some (.bool true)) (h1 : AW P nt n0 x Q σ m) : AW P nt n0 (.cond c x y) Q σ m :=
  aw_cond hc (fun _ => h1) fun e => by cases e
theorem aw_cond_f {nt n0 : Nat} {Q : Exit → Slots → Mem → Prop} {c : Operand} {x y : Code} (hc : ev σ c = some (.bool false)) (h1 : AW P nt n0 y Q σ m) : AW P nt n0 (.cond c x y) Q σ m :=
  aw_cond hc (fun e => by cases e) fun _ => h1
theorem aw_cond_tp {nt n0 : Nat} {Q : Exit → Slots → Mem → Prop} {c : Operand} {x y : Code} {p : Prop} [Decidable p] (hc : ev σ c = some (.bool (decide p))) (hp : p) (h1 : AW P nt n0 x Q σ m) : AW P nt n0 (.cond c x y) Q σ m :=
  aw_cond1 hc (fun _ => h1) fun h => absurd hp h
theorem aw_cond_fp {nt n0 : Nat} {Q : Exit → Slots → Mem → Prop} {c : Operand} {x y : Code} {p : Prop} [Decidable p] (hc : ev σ c = some (.bool (decide p))) (hp : ¬ p) (h1 : AW P nt n0 y Q σ m) : AW P nt n0 (.cond c x y) Q σ m :=
  aw_cond1 hc (fun h => absurd h hp) fun _ => h1
theorem run_guard1t {op : Op} {j : Nat} {dj : Tmp} {p : Prop} [Decidable p] (h1 : (ops[j]?).bind (·.dst) = some dj) (h2 : look σ dj = some (.bool (decide p))) (hp : p)
    (ht : Run P ops K (⟨d, op, t, pp, af, none⟩ :: l) ((dj, .bool true) :: σ) m) : Run P ops K (⟨d, op, t, pp, af, some (j, true)⟩ :: l) σ m :=
  run_guard1 h1 h2 (fun _ => ht) fun h => absurd hp h
theorem run_guard1f {op : Op} {j : Nat} {dj : Tmp} {p : Prop} [Decidable p] (h1 : (ops[j]?).bind (·.dst) = some dj) (h2 : look σ dj = some (.bool (decide p))) (hp : ¬ p)
    (hf : Run P ops K l (put ((dj, .bool false) :: σ) d undef) m) : Run P ops K (⟨d, op, t, pp, af, some (j, true)⟩ :: l) σ m :=
  run_guard1 h1 h2 (fun h => absurd h hp) fun _ => hf
theorem run_guard0t {op : Op} {j : Nat} {dj : Tmp} {p : Prop} [Decidable p] (h1 : (ops[j]?).bind (·.dst) = some dj) (h2 : look σ dj = some (.bool (decide p))) (hp : ¬ p)
    (ht : Run P ops K (⟨d, op, t, pp, af, none⟩ :: l) ((dj, .bool false) :: σ) m) : Run P ops K (⟨d, op, t, pp, af, some (j, false)⟩ :: l) σ m :=
  run_guard0 h1 h2 (fun _ => ht) fun h => absurd h hp
theorem run_guard0f {op : Op} {j : Nat} {dj : Tmp} {p : Prop} [Decidable p] (h1 : (ops[j]?).bind (·.dst) = some dj) (h2 : look σ dj = some (.bool (decide p))) (hp : p)
    (hf : Run P ops K l (put ((dj, .bool true) :: σ) d undef) m) : Run P ops K (⟨d, op, t, pp, af, some (j, false)⟩ :: l) σ m :=
  run_guard0 h1 h2 (fun h => absurd hp h) fun _ => hf
end
/-! ### calls -/
class FnI (P : Program) (f : FuncId) : Prop where
  ex : ∃ fn, P.funcs[f]? = some fn ∧ (fn.name == "runtime.NumGoroutine") = false ∧ fn.body.isNone = false
inductive ArgsR (ρ : Operand → Option Value) : List Operand → List Value → Prop
  | nil : ArgsR ρ [] []
  | cons {x v xs vs} : ρ x = some v → ArgsR ρ xs vs → ArgsR ρ (x :: xs) (v :: vs)
theorem ArgsR.len {ρ xs vs} (h : ArgsR ρ xs vs) : xs.length = vs.length := by induction h <;> simp [*]
theorem ArgsR.vr {ρ xs vs} (h : ArgsR ρ xs vs) {μ : Mu} {a : Act} (ho : ∀ x u, x ∈ xs → ρ x = some u → VR μ u (a.eval x)) : ∀ (i : Nat) v y, vs[i]? = some v → (xs.map a.eval)[i]? = some y → VR μ v y := by
  induction h with
  | nil => intro i v y h; simp at h
  | cons hx _ ih =>
    intro i v y h1 h2
    cases i with
    | zero =>
      simp at h1 h2
      subst h1 h2
      exact ho _ _ (List.mem_cons_self ..) hx
    | succ i => exact ih (fun x u hx => ho x u (List.mem_cons_of_mem _ hx)) i v y (by simpa using h1) (by simpa using h2)
theorem plain_ren {g : Nat → Nat} : ∀ (d : Nat) (v : Value), plain d v = true → ren g v = v
  | 0, _, h => by simp [plain] at h
  | d + 1, v, h => by
    have hl : ∀ (x : Array Value), x.toList.all (plain d) = true → renA g x = x := fun x hx => by
      rw [renA_eq]
      apply Array.ext (by simp)
      intro i h1 h2
      rw [Array.getElem_map]
      exact plain_ren d _ (List.all_eq_true.1 hx _ (by simp))
    unfold ren
    split
    · simp [plain] at h
    · simp [plain] at h
    · simp [plain] at h
    · simp only [plain, Bool.and_eq_true] at h
      rw [hl _ h.1, hl _ h.2]
    · rw [plain_ren d _ (by simpa [plain] using h)]
    · rw [hl _ (by simpa only [plain] using h)]
    · rw [hl _ (by simpa only [plain] using h)]
    · rfl
section
variable {P : Program} {ρ : Operand → Option Value} {m : Mem} {d : Option Tmp} {t : TypeId} {pp : String} {af : Array Edge} {g : Option (Nat × Bool)}
theorem run_callFunc {f : FuncId} [FnI P f] (ys : Array Value) (w : World) : (callFunc f ys).run P w = .ok (.enter f ys) w := by
  obtain ⟨fn, h1, h2, h3⟩ := FnI.ex (P := P) (f := f)
  simp only [callFunc, Sem.run_bind, run_program, Result.andThen_ok, h1, h2, h3]
  rfl
theorem upon_of_calls {o : Oper} {a : Act} {f : FuncId} {ys : Array Value} {w : World} {K : Act → World → Prop} {Q : Exit → Act → World → Prop} (hr : (execOp a.eval o).run P w = .ok (.enter f ys) w)
    (h : Calls P f ys w fun e w' => ∃ y, e = .returned y ∧ K (a.put o.dst y) w') : o.wp P a w K Q := by
  unfold Oper.wp
  rw [hr]
  exact h.mono fun e w' ⟨y, he, hk⟩ => by subst he; exact hk
/-- The arguments that a call hands on: what the function value bears, what is handed over. -/
theorem exec_call {fx : Operand} {xs : Array Operand} {at_ : Array TypeId} {f : FuncId} [FnI P f] {a1 a2 : Array Value} {vs args : List Value} {μ : Mu} {A : Act} {w : World} (hf : ρ fx = some (.func (.func f) a1 a2)) (hxs : ArgsR ρ xs.toList vs)
    (hargs : a1.toList ++ vs ++ a2.toList = args) (ho : ∀ x u, x ∈ (Op.call ⟨.value fx, xs, at_⟩).operands → ρ x = some u → VR μ u (A.eval x)) :
    ∃ ys : Array Value, (execOp A.eval ⟨d, .call ⟨.value fx, xs, at_⟩, t, pp, af, g⟩).run P w = .ok (.enter f ys) w ∧ ys.size = args.length ∧ ∀ (i : Nat) x y, args[i]? = some x → ys[i]? = some y → VR μ x y := by
  have hF := ho fx _ (by simp [Op.operands, Call.operands]) hf
  generalize hX : A.eval fx = X at hF
  have hxv := hxs.vr (μ := μ) (a := A) fun x u hx hu => ho x u (by simp only [Op.operands, Call.operands, Array.mem_append]; exact .inr (by simpa using hx)) hu
  have hlen := hxs.len
  cases hF with
  | func s1 r1 s2 r2 =>
    rename_i b1 b2
    refine ⟨b1 ++ xs.map A.eval ++ b2, ?_, ?_, ?_⟩
    · simp only [execOp, resolve, hX, Deferred.ofValue, Sem.run_bind, Sem.run_pure, Result.andThen_ok, invoke, run_callFunc]
    · subst hargs
      simp only [Array.size_append, Array.size_map, List.length_append, Array.length_toList, ← s1, ← s2]
      rw [show xs.size = vs.length by simpa using hlen]
    · subst hargs
      intro i x y hx hy
      have hys : (b1 ++ xs.map A.eval ++ b2).toList = b1.toList ++ xs.toList.map A.eval ++ b2.toList := by simp
      rw [← Array.getElem?_toList, hys] at hy
      have l1 : a1.toList.length = b1.toList.length := by simpa using s1
      rcases Nat.lt_or_ge i b1.toList.length with h1 | h1
      · rw [List.append_assoc, List.getElem?_append_left h1, Array.getElem?_toList] at hy
        rw [List.append_assoc, List.getElem?_append_left (by omega), Array.getElem?_toList] at hx
        exact r1 i x y hx hy
      · rw [List.append_assoc, List.getElem?_append_right h1] at hy
        rw [List.append_assoc, List.getElem?_append_right (by omega), l1] at hx
        have l2 : vs.length = (xs.toList.map A.eval).length := by simpa using hlen.symm
        rcases Nat.lt_or_ge (i - b1.toList.length) vs.length with h2 | h2
        · rw [List.getElem?_append_left (by omega)] at hy
          rw [List.getElem?_append_left h2] at hx
          exact hxv _ x y hx hy
        · rw [List.getElem?_append_right (by omega), Array.getElem?_toList, ← l2] at hy
          rw [List.getElem?_append_right h2, Array.getElem?_toList] at hx
          exact r2 _ x y hx hy
/-- A function that neither takes nor hands back an address. -/
theorem ok_call {fx : Operand} {xs : Array Operand} {at_ : Array TypeId} {f : FuncId} [FnI P f] {a1 a2 : Array Value} {vs args : List Value} {r : Value} (hf : ρ fx = some (.func (.func f) a1 a2)) (hxs : ArgsR ρ xs.toList vs)
    (hargs : a1.toList ++ vs ++ a2.toList = args) (hp : args.all (plain 6) = true) (hr : plain 6 r = true) (hc : ACalls P f args [] r []) : OpOK P ⟨d, .call ⟨.value fx, xs, at_⟩, t, pp, af, g⟩ ρ m r m := by
  constructor
  intro F w0 μ A w K Q hd hm ho hk
  obtain ⟨ys, h1, h2, h3⟩ := exec_call (P := P) (d := d) (t := t) (pp := pp) (af := af) (g := g) (w := w) hf hxs hargs ho
  have hm0 : RepM (fun k => w.heap.size ≤ k) w (fun _ => none) [] w := ⟨rfl, rfl, rfl, Nat.le_refl _, fun _ _ => rfl, ⟨fun k hk => hk, hm.here⟩, fun id B hB => by simp [live] at hB, fun id id' B B' L L' h1 => by simp [live] at h1⟩
  refine upon_of_calls h1 ((hc.calls _ w _ w ys (fun _ _ => rfl) hm0 h2 fun i x y hx hy => ?_).mono ?_)
  · have hpx := List.all_eq_true.1 hp x (List.mem_of_getElem? hx)
    have := plain_eq 6 x y hpx (h3 i x y hx hy)
    rw [this]
    exact plain_refl _ 6 x hpx
  · rintro e w' ⟨μ', y, rfl, _, hd', hm', hy⟩
    have e1 := plain_eq 6 r y hr hy
    exact ⟨y, rfl, hk μ y w' (Ext.refl _ _) hd (hm.keep hm'.os hm'.tape hm'.output hm'.size fun k hk => hm'.frame k (by omega)) (e1 ▸ plain_refl μ 6 r hr)⟩
end
/-! ### functions -/
def rvSem (tmps : Array Value) : ResultVar → Sem Value
  | .tmp t => pure (tmps.getD t undef)
  | .cell p ty => do loadVar ty (← asAddr (tmps.getD p undef))
theorem run_resultVars {P : Program} {F w0 μ m w} {σ : Slots} {a : Act} (hm : RepM F w0 μ m w) (hs : SlotsOK μ σ a) : ∀ (rs : List ResultVar) (vs : List Value), ResOK P rs σ m vs →
    ∃ ys : List Value, (rs.mapM (rvSem a.tmps)).run P w = .ok ys w ∧ ys.length = vs.length ∧ ∀ (i : Nat) x y, vs[i]? = some x → ys[i]? = some y → VR μ x y
  | [], vs, h => by
    cases h
    exact ⟨[], rfl, rfl, fun i x y h => by simp at h⟩
  | .tmp t :: rs, vs, h => by
    obtain ⟨v, vs', h1, rfl, h3⟩ := h
    obtain ⟨ys, k1, k2, k3⟩ := run_resultVars hm hs rs vs' h3
    refine ⟨a.tmps.getD t undef :: ys, by simp only [List.mapM_cons, rvSem, Sem.run_bind, Sem.run_pure, Result.andThen_ok, k1], by simp [k2], fun i x y hx hy => ?_⟩
    cases i with
    | zero => simp only [List.getElem?_cons_zero, Option.some.injEq] at hx hy; subst hx; rw [← hy]; exact (hs t _ h1).2
    | succ i => exact k3 i x y (by simpa using hx) (by simpa using hy)
  | .cell t ty :: rs, vs, h => by
    obtain ⟨id, o, B, v, vs', h1, hB, hmz, hv, rfl, h3⟩ := h
    obtain ⟨ys, k1, k2, k3⟩ := run_resultVars hm hs rs vs' h3
    obtain ⟨L, hL, hp⟩ := ((hs t _ h1).2).ptr'
    have : ∃ y, (loadVar ty ⟨L.b, L.o + o, none⟩).run P w = .ok y w ∧ VR μ v y := by
      rcases hv with ⟨D, e1, e2, e3⟩ | ⟨D, n, e1, e2, e3, e4, e5⟩
      · obtain ⟨y, j1, j2⟩ := hm.cells hB (notMap hmz) hL o v e3
        have hD : aggD D = false := by cases D <;> simp_all [aggD]
        exact ⟨y, by simp [loadVar, run_isAgg e1, hD, j1], j2⟩
      · have hD : aggD D = true := by cases D <;> simp_all [aggD]
        obtain ⟨ti, i1, i2⟩ : ∃ ti, P.info? ty = some ti ∧ ti.size = n := by
          cases hi : P.info? ty with
          | none => rw [hi] at e3; simp at e3
          | some ti => rw [hi] at e3; exact ⟨ti, rfl, by simpa using e3⟩
        obtain ⟨ys, j1, j2, j3⟩ := hm.loadN (P := P) hB (notMap hmz) hL (TakeR.of e4)
        subst e5
        refine ⟨.agg ys.toArray, by simp [loadVar, run_isAgg e1, hD, run_size i1, i2, j1], .agg (by simp [j2]; omega) fun i u v hu hv => j3 i u v (by simpa using hu) (by simpa using hv)⟩
    obtain ⟨y, j1, j2⟩ := this
    have ha : (asAddr (a.tmps.getD t undef)).run P w = .ok ⟨L.b, L.o + o, none⟩ w := by rw [hp]; rfl
    refine ⟨y :: ys, by simp only [List.mapM_cons, rvSem, Sem.run_bind, ha, Result.andThen_ok, j1, k1, Sem.run_pure], by simp [k2], fun i x y hx hy => ?_⟩
    cases i with
    | zero => simp at hx hy; subst hx hy; exact j2
    | succ i => exact k3 i x y (by simpa using hx) (by simpa using hy)
theorem run_results {P : Program} {F w0 μ m w} {σ : Slots} {a : Act} {fn : Func} {vs : List Value} (hm : RepM F w0 μ m w) (hs : SlotsOK μ σ a) (h : ResOK P fn.results.toList σ m vs) :
    ∃ y, (results fn a.tmps).run P w = .ok y w ∧ VR μ (retOf vs) y := by
  obtain ⟨ys, h1, h2, h3⟩ := run_resultVars (P := P) hm hs _ _ h
  have e : (results fn a.tmps).run P w = .ok (if h : ys.toArray.size = 1 then ys.toArray[0] else .tuple ys.toArray) w := by
    have hfun : results fn a.tmps = (do let vs ← fn.results.mapM (rvSem a.tmps); pure (if h : vs.size = 1 then vs[0] else .tuple vs)) := by
      unfold results
      congr 1
    rw [hfun]
    simp only [Array.mapM_eq_mapM_toList, Sem.run_bind, Sem.run_map, h1, Result.andThen_ok, Sem.run_pure]
  refine ⟨_, e, ?_⟩
  match vs, ys, h2, h3 with
  | [], [], _, _ => exact .tuple rfl fun i u v h => by simp at h
  | [v], [y], _, h3 => exact h3 0 v y rfl rfl
  | u :: v :: vs, x :: y :: ys, h2, h3 =>
    simp only [retOf, List.size_toArray, List.length_cons]
    rw [dif_neg (by omega)]
    exact .tuple (by simpa using h2.symm) fun i p q hp hq => h3 i p q (by simpa using hp) (by simpa using hq)
/-- A function's end: its results are read; blocks are numbered anew or let go. -/
def Post (P : Program) (rs : List ResultVar) (n0 : Nat) (r : Value) (m' : Mem) : Exit → Slots → Mem → Prop := fun e σ m =>
  (match e with | .normal => True | .ret => True | _ => False) ∧ ∃ vs g, ResOK P rs σ m vs ∧ Renum n0 g m m' ∧ Wk (retOf vs) (ren g r)
theorem zcell_putD {z : Nat} {w : World} {D b i : Nat} {x : Option (List Deferred)} {o : Obj} {y : Value} (hD : w.heap[D]? = some (.deferred x)) (h : zcell? z w b i = some y) : zcell? z (w.putObj D o) b i = some y := by
  by_cases hb : b = D
  · subst hb
    exfalso
    unfold zcell? mcell? World.cell? at h
    simp [hD] at h
  · rw [← h]
    exact zcell_of_heap (World.putObj_heap_other hb) i
theorem RowZ.ne_D {z n : Nat} {L : Loc} {w : World} {D : Nat} {x : Option (List Deferred)} (hD : w.heap[D]? = some (.deferred x)) (h : RowZ z n L w) : L.b ≠ D := by
  rintro rfl
  unfold RowZ at h
  split at h
  · obtain ⟨_, _, es, c, h, _⟩ := h
    rw [hD] at h; cases h
  · obtain ⟨c, e, lo, hi, h, _⟩ := h
    rw [hD] at h; cases h
theorem RepM.putD {F w0 μ m w} {D : Nat} {x : Option (List Deferred)} {o : Obj} (h : RepM F w0 μ m w) (hF : F D) (hD : w.heap[D]? = some (.deferred x)) : RepM F w0 μ m (w.putObj D o) where
  os := h.os
  tape := h.tape
  output := h.output
  size := by rw [World.putObj_size]; exact h.size
  frame k hk := (World.putObj_heap_other (fun e => hk (by rw [e]; exact hF))).trans (h.frame k hk)
  up := h.up
  blk id B hB := by
    obtain ⟨L, h1, h2, h3⟩ := h.blk id B hB
    refine ⟨L, h1, ⟨h2.rw, h2.z, fun j v hv => ?_, fun hr ht => ?_, h2.mN⟩, h3⟩
    · obtain ⟨y, k1, k2⟩ := h2.cells j v hv
      exact ⟨y, zcell_putD hD k1, k2⟩
    · have hrow := h2.row hr ht
      exact hrow.keep (World.putObj_heap_other (hrow.ne_D hD))
  excl := h.excl
theorem leaves_coll {P : Program} {n : Nat} {fn : Func} {tmps : Array Value} {R : Ending → World → Prop} {F w0 μ m} (hres : ∀ w, RepM F w0 μ m w → LeavesIn (fw none) n P fn tmps R [] .returning w) : ∀ (l : List Deferred) (w : World), (∀ d ∈ l, ∃ D, d = { target := .collected D, args := #[] } ∧ F D ∧ w.heap[D]? = some (.deferred (some []))) → l.Nodup → RepM F w0 μ m w → LeavesInM (fw none) n P fn tmps R l .returning w
  | [], w, _, _, hm => hres w hm
  | d :: l, w, hd, hn, hm => by
    obtain ⟨D, rfl, hF, hD⟩ := hd d (List.mem_cons_self ..)
    rw [List.nodup_cons] at hn
    refine ⟨by simp, .inl ⟨D, w.putObj D (.deferred none), rfl, run_takeDeferred hD, leaves_coll hres l _ (fun d' hd' => ?_) hn.2 (hm.putD hF hD)⟩⟩
    obtain ⟨D', e, hF', hD'⟩ := hd d' (List.mem_cons_of_mem _ hd')
    refine ⟨D', e, hF', (World.putObj_heap_other fun h => hn.1 ?_).trans hD'⟩
    subst h
    rw [← e]
    exact hd'
theorem acalls_of_aw {P : Program} {f : FuncId} {fn : Func} {c : Code} {args : List Value} {m : Mem} {r : Value} {m' : Mem} (hf : P.funcs[f]? = some fn) (hb : fn.body = some c) (hn : Nat.ble args.length fn.ntmps = true)
    (h : AW P fn.ntmps m.length c (Post P fn.results.toList m.length r m') (argSlots 0 args) m) : ACalls P f args m r m' := by
  constructor
  intro F w0 μ w ys hd hm hl hv
  refine (callsIn_wide (n := 3)).1 (callsIn_of_wp_marks (F := fw none) (n := 3) hf hb trivial (wpIn_mono (h.wp none F w0 μ _ w RfOK.none ⟨?_, DefOK.nil, fun t v ht => ?_, hm, hd⟩) ?_) rfl)
  · have := Nat.le_of_ble_eq_true hn
    simp; omega
  · obtain ⟨_, h2⟩ := look_args args 0 t v ht
    rw [Nat.sub_zero] at h2
    have hlt : t < args.length := by
      rcases Nat.lt_or_ge t args.length with h' | h'
      · exact h'
      · rw [List.getElem?_eq_none h'] at h2; cases h2
    have hy : ys[t]? = some ys[t] := Array.getElem?_eq_getElem (by omega)
    refine ⟨by simp; omega, ?_⟩
    have e : (ys ++ Array.replicate (fn.ntmps - ys.size) undef).getD t undef = ys[t] := by
      simp [Array.getD, show t < ys.size + (fn.ntmps - ys.size) by omega, show t < ys.size by omega]
    rw [e]
    exact hv t v _ h2 hy
  · rintro e a' w' ⟨F', w0', μ', σ', m'', hreb, h1, h2, hx, vs, g, hres, hg, hret⟩
    have hm2 := h2.mem.unreb hreb hm.up
    have fin := leaves_coll (P := P) (n := 3) (fn := fn) (tmps := a'.tmps) (R := fun e w' => ∃ μ2 y, e = .returned y ∧ Ext m.length μ μ2 ∧ Dom μ2 m'.length ∧ RepM F w0 μ2 m' w' ∧ VR μ2 r y) (fun w2 hw2 => by
      obtain ⟨y, k1, k2⟩ := run_results (P := P) (fn := fn) hw2 h2.slots hres
      have k2 := hret.vr k2
      exact ⟨y, k1, _, y, rfl, h1.trans hg.ext, hg.dom h2.dom, hw2.renum hg, k2.ren⟩) a'.defers w' (fun d hd => by
      obtain ⟨D, e, _, hD⟩ := h2.defers.all d hd
      rcases hreb.new d hd with h | ⟨D2, e2, hF⟩
      · cases h
      · rw [e] at e2
        cases e2
        exact ⟨D, e, hF, (h2.mem.frame D ‹¬ F' D›).trans hD⟩) h2.defers.nd hm2
    cases e with
    | normal => exact fin
    | ret => exact fin
    | _ => exact hx.elim
/-- The same where nothing of memory is handed back. -/
def PostP (P : Program) (rs : List ResultVar) (r : Value) : Exit → Slots → Mem → Prop := fun e σ m =>
  (match e with | .normal => True | .ret => True | _ => False) ∧ ∃ vs, ResOK P rs σ m vs ∧ retOf vs = r
theorem acalls_pure {P : Program} {f : FuncId} {fn : Func} {c : Code} {args : List Value} {r : Value} (hf : P.funcs[f]? = some fn) (hb : fn.body = some c) (hn : Nat.ble args.length fn.ntmps = true) (hr : plain 6 r = true)
    (h : AW P fn.ntmps 0 c (PostP P fn.results.toList r) (argSlots 0 args) []) : ACalls P f args [] r [] :=
  acalls_of_aw hf hb hn (h.mono fun e σ m ⟨h1, vs, h2, h3⟩ => ⟨h1, vs, fun i => m.length + i, h2, ⟨fun i hi => by simp at hi, Nat.zero_le _, fun i _ => Nat.le_add_right _ _, fun i B hB => by simp [live] at hB, fun i j B B' hB => by simp [live] at hB⟩, by rw [h3, plain_ren 6 r hr]; exact .refl _⟩)
end Go.Proofs.YtdenooeaiicheaaGreat.Av
/- Walking in numbers of one's own: a region that draws its order, walked in the text's order. -/
namespace Go.Proofs.YtdenooeaiicheaaGreat.Av
def touch : Op → Bool
  | .move _ | .assign _ | .pick .. | .binOp .. | .unOp .. | .extract .. | .field .. | .index .. | .fieldAddr .. | .indexAddr .. | .nilCheck _ | .build .. | .makeFunc .. => false
  | .call { callee := .builtin .len, .. } | .call { callee := .builtin .min, .. } | .call { callee := .builtin .max, .. } => false
  | _ => true
def holes (m : Mem) : Mem := m.map fun _ => none
/-- Of the blocks m those that an operation of the region may look at: those that were there, those that its forerunners made; none may be written. -/
def vis (base : Nat) (cr : List Nat) (p : Nat → Bool) (m : Mem) : Mem :=
  m.zipIdx.map fun (b, id) => cond (Nat.blt id base || p (cr.getD (id - base) 0)) (b.map fun B => { B with rw := false }) none
/-- m' has behind m what v' has behind v. -/
inductive ExtR : Mem → Mem → Mem → Mem → Prop
  | nil {N : Mem} : (N.all fun b => match b with | some B => B.rw | none => true) = true → ExtR [] N [] N
  | cons {x v v' y m m'} : ExtR v v' m m' → ExtR (x :: v) (x :: v') (y :: m) (y :: m')
theorem ExtR.spec {v v' m m'} (h : ExtR v v' m m') : v.length = m.length ∧ ∃ N : Mem, v' = v ++ N ∧ m' = m ++ N ∧ (N.all fun b => match b with | some B => B.rw | none => true) = true := by
  induction h with
  | nil h => exact ⟨rfl, _, rfl, rfl, h⟩
  | cons _ ih => obtain ⟨h1, N, h2, h3, h4⟩ := ih; exact ⟨by simp [h1], N, by simp [h2], by simp [h3], h4⟩
theorem extR_same : ∀ (v m : Mem), v.length = m.length → ExtR v v m m
  | [], [], _ => .nil rfl
  | x :: v, y :: m, h => .cons (extR_same v m (by simpa using h))
/-- A region's operations in the text's order, its order drawn. -/
inductive RunD (P : Program) (ops : Array Oper) (M : List Nat) (kb base : Nat) (K : Slots → Mem → Prop) : Nat → List Oper → Slots → Mem → List Nat → Prop
  | nil {i σ σ0 m cr} : Sub σ σ0 → K σ m → RunD P ops M kb base K i [] σ0 m cr
  | no {i σ σ0 m cr o l} : Sub σ σ0 → Want ops σ o false → RunD P ops M kb base K (i + 1) l (put σ o.dst undef) m cr → RunD P ops M kb base K i (o :: l) σ0 m cr
  | pure {i σ σ0 m cr o l v} : Sub σ σ0 → Want ops σ o true → touch o.op = false → OpOK P o (ev σ) (holes m) v (holes m) → RunD P ops M kb base K (i + 1) l (put σ o.dst v) m cr → RunD P ops M kb base K i (o :: l) σ0 m cr
  | mem {i σ σ0 m cr o l v V' m'} : Sub σ σ0 → Want ops σ o true → i < kb → touch o.op = true → OpOK P o (ev σ) (vis base cr (fun j => (M.getD i 0).testBit j) m) v V' → ExtR (vis base cr (fun j => (M.getD i 0).testBit j) m) V' m m' →
      RunD P ops M kb base K (i + 1) l (put σ o.dst v) m' (cr ++ List.replicate (m'.length - m.length) i) → RunD P ops M kb base K i (o :: l) σ0 m cr
  | bar {i σ σ0 m cr o l v m'} : Sub σ σ0 → Want ops σ o true → kb ≤ i → touch o.op = true → OpOK P o (ev σ) m v m' → m.length ≤ m'.length →
      RunD P ops M kb base K (i + 1) l (put σ o.dst v) m' (cr ++ List.replicate (m'.length - m.length) i) → RunD P ops M kb base K i (o :: l) σ0 m cr
/-- The static look: forerunners, slots, what writes comes alone. -/
def tmpsOf (ops : Array Oper) (o : Oper) : List Tmp := o.looksAt ops
def chkD (ops : Array Oper) (M : List Nat) (kb : Nat) : Bool :=
  ops.toList.zipIdx.all fun (o, i) =>
    (o.after.toList.all fun e => !Region.binds .any e || Nat.blt e.on i) &&
    ((List.range i).all fun j => !(M.getD i 0).testBit j || o.after.toList.any fun e => Region.binds .any e && (Nat.beq e.on j || (Nat.blt j e.on && (M.getD e.on 0).testBit j))) &&
    (ops.toList.zipIdx.all fun (o', j) =>
      Nat.beq i j ||
      (match o'.dst with
       | none => true
       | some t => (o.dst != some t) && (!(tmpsOf ops o).contains t || (Nat.blt j i && (M.getD i 0).testBit j) || (Nat.blt i j && (M.getD j 0).testBit i)))) &&
    (Nat.blt i kb || !touch o.op || (ops.toList.zipIdx.all fun (o', j) => !Nat.blt j i || !touch o'.op || (M.getD i 0).testBit j))
structure Chk (ops : Array Oper) (M : List Nat) (kb : Nat) : Prop where
  edge : ∀ (i : Nat) (o : Oper), ops[i]? = some o → ∀ e ∈ o.after.toList, Region.binds .any e = true → e.on < i
  cert : ∀ (i : Nat) (o : Oper), ops[i]? = some o → ∀ j, j < i → (M.getD i 0).testBit j = true → ∃ e ∈ o.after.toList, Region.binds .any e = true ∧ (e.on = j ∨ (j < e.on ∧ (M.getD e.on 0).testBit j = true))
  one : ∀ (i : Nat) (o : Oper) (j : Nat) (o' : Oper) (t : Tmp), ops[i]? = some o → ops[j]? = some o' → i ≠ j → o'.dst = some t → o.dst ≠ some t
  reads : ∀ (i : Nat) (o : Oper) (j : Nat) (o' : Oper) (t : Tmp), ops[i]? = some o → ops[j]? = some o' → i ≠ j → o'.dst = some t → t ∈ o.looksAt ops → (j < i ∧ (M.getD i 0).testBit j = true) ∨ (i < j ∧ (M.getD j 0).testBit i = true)
  alone : ∀ (i : Nat) (o : Oper) (j : Nat) (o' : Oper), ops[i]? = some o → ops[j]? = some o' → kb ≤ i → touch o.op = true → j < i → touch o'.op = true → (M.getD i 0).testBit j = true
theorem zipIdx_all {α} {l : List α} {p : α × Nat → Bool} (h : l.zipIdx.all p = true) {i : Nat} {x : α} (hx : l[i]? = some x) : p (x, i) = true :=
  List.all_eq_true.1 h (x, i) (List.mem_iff_getElem?.2 ⟨i, by simp [List.getElem?_zipIdx, hx]⟩)
theorem chkD_spec {ops : Array Oper} {M : List Nat} {kb : Nat} (h : chkD ops M kb = true) : Chk ops M kb := by
  have get : ∀ (i : Nat) (o : Oper), ops[i]? = some o → ops.toList[i]? = some o := fun i o ho => by rw [Array.getElem?_toList]; exact ho
  have h0 := fun (i : Nat) (o : Oper) (ho : ops[i]? = some o) => zipIdx_all h (get i o ho)
  simp only [Bool.and_eq_true] at h0
  refine ⟨fun i o ho e he hb => ?_, fun i o ho j hj ht => ?_, fun i o j o' t ho ho' hne hd => ?_, fun i o j o' t ho ho' hne hd hl => ?_, fun i o j o' ho ho' hk ht hj ht' => ?_⟩
  · have := List.all_eq_true.1 (h0 i o ho).1.1.1 e he
    rw [hb] at this
    exact Nat.blt_eq.mp (by simpa using this)
  · have := List.all_eq_true.1 (h0 i o ho).1.1.2 j (List.mem_range.2 hj)
    rw [ht] at this
    simp only [Bool.not_true, Bool.false_or] at this
    obtain ⟨e, he, hb⟩ := List.any_eq_true.1 this
    simp only [Bool.and_eq_true, Bool.or_eq_true] at hb
    exact ⟨e, he, hb.1, hb.2.imp Nat.eq_of_beq_eq_true fun h => ⟨Nat.blt_eq.mp h.1, h.2⟩⟩
  · have := zipIdx_all (h0 i o ho).1.2 (get j o' ho')
    have hb : Nat.beq i j = false := by
      cases hb : Nat.beq i j with
      | false => rfl
      | true => exact absurd (Nat.eq_of_beq_eq_true hb) hne
    simp only [hb, Bool.false_or, hd, Bool.and_eq_true, bne_iff_ne] at this
    exact this.1
  · have := zipIdx_all (h0 i o ho).1.2 (get j o' ho')
    have hb : Nat.beq i j = false := by
      cases hb : Nat.beq i j with
      | false => rfl
      | true => exact absurd (Nat.eq_of_beq_eq_true hb) hne
    simp only [hb, Bool.false_or, hd, Bool.and_eq_true, Bool.or_eq_true] at this
    have hc : (tmpsOf ops o).contains t = true := by simpa [tmpsOf] using hl
    rw [hc] at this
    rcases this.2 with (h1 | h1) | h1
    · cases h1
    · exact .inl ⟨Nat.blt_eq.mp h1.1, h1.2⟩
    · exact .inr ⟨Nat.blt_eq.mp h1.1, h1.2⟩
  · have := (h0 i o ho).2
    simp only [Bool.or_eq_true] at this
    rcases this with (h1 | h1) | h1
    · have := Nat.blt_eq.mp h1; omega
    · rw [ht] at h1; cases h1
    · have := zipIdx_all h1 (get j o' ho')
      simp only [Bool.or_eq_true] at this
      rcases this with (h2 | h2) | h2
      · have h3 : Nat.blt j i = true := Nat.blt_eq.mpr hj
        rw [h3] at h2; cases h2
      · rw [ht'] at h2; cases h2
      · exact h2
/-! ### what a run in the text's order gives -/
structure Step (P : Program) (ops : Array Oper) (M : List Nat) (kb base : Nat) (i : Nat) (o : Oper) (σ : Slots) (m : Mem) (cr : List Nat) (v : Value) (σ' : Slots) (m' : Mem) (cr' : List Nat) : Prop where
  slots : ∀ t x, look σ' t = some x → (o.dst = some t ∧ x = v) ∨ (o.dst ≠ some t ∧ look σ t = some x)
  len : m.length ≤ m'.length
  crs : cr' = cr ++ List.replicate (m'.length - m.length) i
  does : (Want ops σ o false ∧ v = undef ∧ m' = m) ∨
    (Want ops σ o true ∧ touch o.op = false ∧ m' = m ∧ OpOK P o (ev σ) (holes m) v (holes m)) ∨
    (Want ops σ o true ∧ i < kb ∧ touch o.op = true ∧ ∃ N : Mem, m' = m ++ N ∧ (N.all fun b => match b with | some B => B.rw | none => true) = true ∧ OpOK P o (ev σ) (vis base cr (fun j => (M.getD i 0).testBit j) m) v (vis base cr (fun j => (M.getD i 0).testBit j) m ++ N)) ∨
    (Want ops σ o true ∧ kb ≤ i ∧ touch o.op = true ∧ OpOK P o (ev σ) m v m')
theorem Want.sub {ops : Array Oper} {σ σ' : Slots} {o : Oper} {b : Bool} (h : Want ops σ o b) (hs : Sub σ σ') : Want ops σ' o b := by
  unfold Want at *
  split
  · simpa [*] using h
  · rename_i j want hg
    rw [hg] at h
    obtain ⟨d, c, h1, h2, h3⟩ := h
    exact ⟨d, c, h1, hs _ _ h2, h3⟩
theorem put_slots {σ σ0 : Slots} (hs : Sub σ σ0) (d : Option Tmp) (v : Value) : ∀ t x, look (put σ d v) t = some x → (d = some t ∧ x = v) ∨ (d ≠ some t ∧ look σ0 t = some x) := fun t x h => by
  cases d with
  | none => exact .inr ⟨by simp, hs t x h⟩
  | some d =>
    simp only [put, look] at h
    by_cases hd : d = t
    · subst hd
      rw [show Nat.beq d d = true from Nat.beq_refl d] at h
      exact .inl ⟨rfl, by simpa using h.symm⟩
    · have hb : Nat.beq d t = false := by
        cases hb : Nat.beq d t with
        | false => rfl
        | true => exact absurd (Nat.eq_of_beq_eq_true hb) hd
      rw [hb] at h
      exact .inr ⟨by simpa using hd, hs t x h⟩
structure Tr where
  σ : Slots
  m : Mem
  cr : List Nat
  v : Value
theorem trace {P : Program} {ops : Array Oper} {M : List Nat} {kb base : Nat} {K : Slots → Mem → Prop} {i : Nat} {l : List Oper} {σ0 : Slots} {m : Mem} {cr : List Nat} (h : RunD P ops M kb base K i l σ0 m cr) :
    ∃ T : Nat → Tr, (T 0).σ = σ0 ∧ (T 0).m = m ∧ (T 0).cr = cr ∧ (∀ (j : Nat) (o : Oper), l[j]? = some o → Step P ops M kb base (i + j) o (T j).σ (T j).m (T j).cr (T j).v (T (j + 1)).σ (T (j + 1)).m (T (j + 1)).cr) ∧
      ∃ σ, Sub σ (T l.length).σ ∧ K σ (T l.length).m := by
  have cons : ∀ {i : Nat} {o : Oper} {l : List Oper} {σ0 σ' : Slots} {m m' : Mem} {cr cr' : List Nat} {v : Value}, Step P ops M kb base i o σ0 m cr v σ' m' cr' →
      (∃ T : Nat → Tr, (T 0).σ = σ' ∧ (T 0).m = m' ∧ (T 0).cr = cr' ∧ (∀ (j : Nat) (o : Oper), l[j]? = some o → Step P ops M kb base (i + 1 + j) o (T j).σ (T j).m (T j).cr (T j).v (T (j + 1)).σ (T (j + 1)).m (T (j + 1)).cr) ∧ ∃ σ, Sub σ (T l.length).σ ∧ K σ (T l.length).m) →
      ∃ T : Nat → Tr, (T 0).σ = σ0 ∧ (T 0).m = m ∧ (T 0).cr = cr ∧ (∀ (j : Nat) (o1 : Oper), (o :: l)[j]? = some o1 → Step P ops M kb base (i + j) o1 (T j).σ (T j).m (T j).cr (T j).v (T (j + 1)).σ (T (j + 1)).m (T (j + 1)).cr) ∧
        ∃ σ, Sub σ (T (o :: l).length).σ ∧ K σ (T (o :: l).length).m := by
    intro i o l σ0 σ' m m' cr cr' v hs ⟨T, h1, h2, h3, h4, h5⟩
    refine ⟨fun j => match j with | 0 => ⟨σ0, m, cr, v⟩ | j + 1 => T j, rfl, rfl, rfl, fun j o1 hj => ?_, h5⟩
    cases j with
    | zero =>
      simp only [List.getElem?_cons_zero, Option.some.injEq] at hj
      subst hj
      simp only [h1, h2, h3]
      exact hs
    | succ j =>
      have := h4 j o1 (by simpa using hj)
      rw [show i + 1 + j = i + (j + 1) by omega] at this
      exact this
  induction h with
  | nil hs hk => exact ⟨fun _ => ⟨_, _, _, undef⟩, rfl, rfl, rfl, fun j o hj => by simp at hj, _, hs, hk⟩
  | no hs hw _ ih => exact cons ⟨put_slots hs _ _, Nat.le_refl _, by simp, .inl ⟨hw.sub hs, rfl, rfl⟩⟩ ih
  | pure hs hw ht hop _ ih => exact cons ⟨put_slots hs _ _, Nat.le_refl _, by simp, .inr (.inl ⟨hw.sub hs, ht, rfl, hop.sub hs⟩)⟩ ih
  | mem hs hw hi ht hop hx _ ih =>
    obtain ⟨h1, N, h2, h3, h4⟩ := hx.spec
    subst h2 h3
    exact cons ⟨put_slots hs _ _, by simp, rfl, .inr (.inr (.inl ⟨hw.sub hs, hi, ht, N, rfl, h4, hop.sub hs⟩))⟩ ih
  | bar hs hw hi ht hop hl _ ih => exact cons ⟨put_slots hs _ _, hl, rfl, .inr (.inr (.inr ⟨hw.sub hs, hi, ht, hop.sub hs⟩))⟩ ih
/-! ### any order -/
theorem countP_lt {α} {p q : α → Bool} {a : α} : ∀ {l : List α}, (∀ x ∈ l, p x = true → q x = true) → a ∈ l → q a = true → p a = false → l.countP p < l.countP q
  | x :: l, h, ha, hq, hp => by
    have hle : l.countP p ≤ l.countP q := List.countP_mono_left fun y hy => h y (List.mem_cons_of_mem _ hy)
    rw [List.countP_cons, List.countP_cons]
    rcases List.mem_cons.1 ha with rfl | ha
    · simp [hq, hp]; omega
    · have := countP_lt (fun y hy => h y (List.mem_cons_of_mem _ hy)) ha hq hp
      have hx := h x (List.mem_cons_self ..)
      cases hpx : p x <;> cases hqx : q x <;> simp_all <;> omega
def restr (μ : Mu) (n : Nat) : Mu := fun id => if id < n then μ id else none
theorem restr_dom (μ : Mu) (n : Nat) : Dom (restr μ n) n := fun id h => by unfold restr; rw [if_neg (by omega)]
theorem restr_mono {μ μ' : Mu} {n n' : Nat} (hs : ∀ id L, μ id = some L → μ' id = some L) (hn : n ≤ n') : ∀ id L, restr μ n id = some L → restr μ' n' id = some L := fun id L h => by
  unfold restr at *
  split at h
  · rw [if_pos (by omega)]; exact hs id L h
  · cases h
structure FrW (F : Nat → Prop) (w0 w : World) : Prop where
  os : w.os = w0.os
  tape : w.tape = w0.tape
  output : w.output = w0.output
  size : w0.heap.size ≤ w.heap.size
  frame : ∀ k, ¬ F k → w.heap[k]? = w0.heap[k]?
  up : Up F w0
theorem FrW.here {F : Nat → Prop} {w0 w : World} (h : FrW F w0 w) : Up (fun k => w.heap.size ≤ k) w := ⟨fun _ h => h, h.up.amb.mono (fun k hk => h.up k (Nat.le_trans h.size hk)) h.frame⟩
section
variable {P : Program} {ops : Array Oper} {M : List Nat} {kb nt : Nat} {F : Nat → Prop} {w0 : World} {T : Nat → Tr} {μ0 : Mu} {l0 : List Deferred}
abbrev ln (T : Nat → Tr) (i : Nat) : Nat := (T i).m.length
def Cls (T : Nat → Tr) (S : Nat → Prop) (c id : Nat) : Prop := (c = 0 ∧ id < ln T 0) ∨ ∃ j, c = j + 1 ∧ S j ∧ ln T j ≤ id ∧ id < ln T (j + 1)
structure MemA (T : Nat → Tr) (S : Nat → Prop) (F : Nat → Prop) (w0 : World) (μ : Mu) (w : World) : Prop where
  fr : FrW F w0 w
  blk : ∀ c id B, Cls T S c id → live (T c).m id = some B → ∃ L, μ id = some L ∧ BlkOK (restr μ (ln T c)) B L w ∧ (Rw B L → F L.b)
  excl : ∀ c c' id id' B B' L L', Cls T S c id → Cls T S c' id' → live (T c).m id = some B → live (T c').m id' = some B' → id ≠ id' → μ id = some L → μ id' = some L' → Rw B L → Takes B' L' → L.b ≠ L'.b
structure MemB (ops : Array Oper) (kb : Nat) (T : Nat → Tr) (S : Nat → Prop) (F : Nat → Prop) (w0 : World) (μ : Mu) (w : World) (k : Nat) : Prop where
  op : ∃ o, ops[k]? = some o ∧ touch o.op = true
  le : kb ≤ k
  all : ∀ j o, ops[j]? = some o → touch o.op = true → (S j ↔ j ≤ k)
  rep : RepM F w0 (restr μ (ln T (k + 1))) (T (k + 1)).m w
structure AInv (ops : Array Oper) (kb nt : Nat) (l0 : List Deferred) (T : Nat → Tr) (S : Nat → Prop) (F : Nat → Prop) (w0 : World) (μ0 : Mu) (a : Act) (w : World) (μ : Mu) : Prop where
  lt : ∀ i, S i → i < ops.size
  closed : ∀ i o, S i → ops[i]? = some o → ∀ e ∈ o.after.toList, Region.binds .any e = true → S e.on
  size : a.tmps.size = nt
  defers : a.defers = l0
  s1 : ∀ i o t, S i → ops[i]? = some o → o.dst = some t → VR (restr μ (ln T (i + 1))) (T i).v (a.tmps.getD t undef)
  s0 : ∀ t x, (∀ i o, S i → ops[i]? = some o → o.dst ≠ some t) → look (T 0).σ t = some x → t < nt ∧ VR (restr μ (ln T 0)) x (a.tmps.getD t undef)
  dom : ∀ id, μ id ≠ none → id < ln T 0 ∨ ∃ j, S j ∧ ln T j ≤ id ∧ id < ln T (j + 1)
  ext : Ext (ln T 0) μ0 μ
  mem : ((∀ k o, S k → ops[k]? = some o → touch o.op = true → k < kb) ∧ MemA T S F w0 μ w) ∨ ∃ k, MemB ops kb T S F w0 μ w k
theorem FrW.keep {w w' : World} (h : FrW F w0 w) (ho : w'.os = w.os) (ht : w'.tape = w.tape) (hp : w'.output = w.output) (hs : w.heap.size ≤ w'.heap.size) (hh : ∀ k, k < w.heap.size → w'.heap[k]? = w.heap[k]?) : FrW F w0 w' where
  os := ho.trans h.os
  tape := ht.trans h.tape
  output := hp.trans h.output
  size := Nat.le_trans h.size hs
  frame k hk := by
    rcases Nat.lt_or_ge k w.heap.size with hl | hl
    · rw [hh k hl]; exact h.frame k hk
    · exact absurd (h.up k (Nat.le_trans h.size hl)) hk
  up := h.up
theorem MemA.keep {S : Nat → Prop} {μ : Mu} {w w' : World} (h : MemA T S F w0 μ w) (ho : w'.os = w.os) (ht : w'.tape = w.tape) (hp : w'.output = w.output) (hs : w.heap.size ≤ w'.heap.size) (hh : ∀ k, k < w.heap.size → w'.heap[k]? = w.heap[k]?) : MemA T S F w0 μ w' where
  fr := h.fr.keep ho ht hp hs hh
  blk c id B hc hB := by
    obtain ⟨L, h1, h2, h3⟩ := h.blk c id B hc hB
    exact ⟨L, h1, h2.keep fun hb => hh _ (h2.lt hb), h3⟩
  excl := h.excl
variable (hstep : ∀ (j : Nat) (o : Oper), ops[j]? = some o → Step P ops M kb (ln T 0) j o (T j).σ (T j).m (T j).cr (T j).v (T (j + 1)).σ (T (j + 1)).m (T (j + 1)).cr)
include hstep
theorem ln_mono {i j : Nat} (h : i ≤ j) (hj : j ≤ ops.size) : ln T i ≤ ln T j := by
  induction j with
  | zero => rw [Nat.le_zero.1 h]; exact Nat.le_refl _
  | succ j ih =>
    rcases Nat.lt_or_ge i (j + 1) with hi | hi
    · exact Nat.le_trans (ih (by omega) (by omega)) (hstep j ops[j] (Array.getElem?_eq_getElem (by omega))).len
    · rw [show i = j + 1 by omega]; exact Nat.le_refl _
theorem hist {i : Nat} (hi : i ≤ ops.size) : ∀ t x, look (T i).σ t = some x → (∃ j o, j < i ∧ ops[j]? = some o ∧ o.dst = some t ∧ x = (T j).v) ∨ ((∀ j o, j < i → ops[j]? = some o → o.dst ≠ some t) ∧ look (T 0).σ t = some x) := by
  induction i with
  | zero => exact fun t x h => .inr ⟨fun j o hj => by omega, h⟩
  | succ i ih =>
    intro t x h
    have ho : ops[i]? = some ops[i] := Array.getElem?_eq_getElem (by omega)
    rcases (hstep i _ ho).slots t x h with ⟨h1, h2⟩ | ⟨h1, h2⟩
    · exact .inl ⟨i, _, by omega, ho, h1, h2⟩
    · rcases ih (by omega) t x h2 with ⟨j, o, k1, k2⟩ | ⟨k1, k2⟩
      · exact .inl ⟨j, o, by omega, k2⟩
      · refine .inr ⟨fun j o hj hjo => ?_, k2⟩
        rcases Nat.lt_or_ge j i with hji | hji
        · exact k1 j o hji hjo
        · obtain rfl : j = i := by omega
          rw [ho] at hjo; cases hjo
          exact h1
theorem made {i : Nat} (hi : i ≤ ops.size) (h0 : (T 0).cr = []) : (T i).cr.length = ln T i - ln T 0 ∧ ∀ id, ln T 0 ≤ id → id < ln T i → ∃ j, j < i ∧ (T i).cr.getD (id - ln T 0) 0 = j ∧ ln T j ≤ id ∧ id < ln T (j + 1) := by
  induction i with
  | zero => exact ⟨by simp [h0], fun id h1 h2 => by omega⟩
  | succ i ih =>
    obtain ⟨k1, k2⟩ := ih (by omega)
    have ho : ops[i]? = some ops[i] := Array.getElem?_eq_getElem (by omega)
    have hs := hstep i _ ho
    have hl := ln_mono hstep (Nat.zero_le i) (by omega)
    have hl' : ln T i ≤ ln T (i + 1) := hs.len
    have e : (T (i + 1)).cr = (T i).cr ++ List.replicate (ln T (i + 1) - ln T i) i := hs.crs
    refine ⟨by rw [e, List.length_append, k1, List.length_replicate]; omega, fun id h1 h2 => ?_⟩
    rcases Nat.lt_or_ge id (ln T i) with h3 | h3
    · obtain ⟨j, a1, a2, a3⟩ := k2 id h1 h3
      refine ⟨j, by omega, ?_, a3⟩
      rw [e, List.getD_eq_getElem?_getD, List.getElem?_append_left (by omega), ← List.getD_eq_getElem?_getD]
      exact a2
    · refine ⟨i, by omega, ?_, h3, h2⟩
      rw [e, List.getD_eq_getElem?_getD, List.getElem?_append_right (by omega), List.getElem?_replicate, if_pos (by omega)]
      rfl
variable (hchk : Chk ops M kb)
include hchk
omit hstep in
theorem pre_in {S : Nat → Prop} (hcl : ∀ i o, S i → ops[i]? = some o → ∀ e ∈ o.after.toList, Region.binds .any e = true → S e.on) :
    ∀ (i : Nat) (o : Oper), ops[i]? = some o → (∀ e ∈ o.after.toList, Region.binds .any e = true → S e.on) → ∀ j, j < i → (M.getD i 0).testBit j = true → S j := by
  intro i
  induction i using Nat.strongRecOn with
  | _ i ih =>
    intro o ho he j hj ht
    obtain ⟨e, h1, h2, h3⟩ := hchk.cert i o ho j hj ht
    have hS := he e h1 h2
    have hlt := hchk.edge i o ho e h1 h2
    rcases h3 with rfl | ⟨h3, h4⟩
    · exact hS
    · have hsz : i < ops.size := (Array.getElem?_eq_some_iff.1 ho).1
      have ho' : ops[e.on]? = some ops[e.on] := Array.getElem?_eq_getElem (by omega)
      exact ih e.on hlt _ ho' (fun e' he' hb' => hcl e.on _ hS ho' e' he' hb') j h3 h4
/-- What an operation that is ready reads is what the text's order reads. -/
theorem reads_ok {S : Nat → Prop} {a : Act} {w : World} {μ : Mu} (hI : AInv ops kb nt l0 T S F w0 μ0 a w μ) {i : Nat} {o : Oper} (ho : ops[i]? = some o) (hS : ¬ S i) (hr : ∀ e ∈ o.after.toList, Region.binds .any e = true → S e.on)
    {t : Tmp} (htl : t ∈ o.looksAt ops) {x : Value} (hx : look (T i).σ t = some x) : VR (restr μ (ln T i)) x (a.tmps.getD t undef) := by
  have hsz : i < ops.size := (Array.getElem?_eq_some_iff.1 ho).1
  rcases hist hstep (Nat.le_of_lt hsz) t x hx with ⟨j, oj, hj, hoj, hd, rfl⟩ | ⟨hno, hx0⟩
  · have hp : (M.getD i 0).testBit j = true := by
      rcases hchk.reads i o j oj t ho hoj (by omega) hd htl with h | h
      · exact h.2
      · omega
    have hSj := pre_in hchk hI.closed i o ho hr j hj hp
    exact (hI.s1 j oj t hSj hoj hd).mono (restr_mono (fun _ _ h => h) (ln_mono hstep (by omega) (by omega)))
  · refine ((hI.s0 t x (fun k ok hSk hok hd => ?_) hx0).2).mono (restr_mono (fun _ _ h => h) (ln_mono hstep (Nat.zero_le _) (by omega)))
    rcases Nat.lt_trichotomy k i with h | h | h
    · exact hno k ok h hok hd
    · subst h; exact hS hSk
    · rcases hchk.reads i o k ok t ho hok (by omega) hd htl with h' | h'
      · omega
      · exact hS (pre_in hchk hI.closed k ok hok (fun e he hb => hI.closed k ok hSk hok e he hb) i h'.1 h'.2)
theorem operands_ok {S : Nat → Prop} {a : Act} {w : World} {μ : Mu} (hI : AInv ops kb nt l0 T S F w0 μ0 a w μ) {i : Nat} {o : Oper} (ho : ops[i]? = some o) (hS : ¬ S i) (hr : ∀ e ∈ o.after.toList, Region.binds .any e = true → S e.on) :
    ∀ x u, x ∈ o.op.operands → ev (T i).σ x = some u → VR (restr μ (ln T i)) u (a.eval x) := by
  intro x u hx hu
  cases x with
  | tmp t => exact reads_ok hstep hchk hI ho hS hr (List.mem_append_left _ (List.mem_filterMap.2 ⟨.tmp t, by simpa using hx, rfl⟩)) hu
  | const c =>
    simp only [ev] at hu
    cases hp : plain 4 c <;> rw [hp] at hu
    · cases hu
    · rw [cond_true, Option.some.injEq] at hu
      subst hu
      exact plain_refl _ 4 _ hp
  | global g => cases hu
  | func f => cases hu; exact .func rfl (fun i u v h _ => by simp at h) rfl (fun i u v h _ => by simp at h)
theorem want_ok' {S : Nat → Prop} {a : Act} {w : World} {μ : Mu} (hd : dstsOK nt ops = true) (hI : AInv ops kb nt l0 T S F w0 μ0 a w μ) {i : Nat} {o : Oper} (ho : ops[i]? = some o) (hS : ¬ S i) (hr : ∀ e ∈ o.after.toList, Region.binds .any e = true → S e.on) {b : Bool}
    (hw : Want ops (T i).σ o b) : Region.wanted o (yielded ops a.tmps) = b := by
  unfold Want at hw
  unfold Region.wanted
  cases hg : o.guard with
  | none => rw [hg] at hw; exact hw.symm
  | some g =>
    obtain ⟨j, want⟩ := g
    rw [hg] at hw
    obtain ⟨d, v, h1, h2, hv⟩ := hw
    have k2 := reads_ok hstep hchk hI ho hS hr (t := d) (List.mem_append_right _ (by rw [hg]; simp only []; rw [h1]; simp)) h2
    obtain ⟨oj, hoj, hdj⟩ := Option.bind_eq_some_iff.1 h1
    have k1 : d < a.tmps.size := by
      rw [hI.size]
      exact dstsOK_spec hd oj (by rw [← Array.getElem?_toList] at hoj; exact List.mem_of_getElem? hoj) d hdj
    rcases hv with ⟨c, rfl, rfl⟩ | ⟨rfl, rfl⟩
    rotate_left
    · have hy : yielded ops a.tmps j = none := yielded_undef h1 k1 k2
      simp only [hy]
      rfl
    have e := k2.bool'
    have hy : yielded ops a.tmps j = some c := by
      unfold yielded
      rw [h1]
      have : a.tmps[d]? = some (.bool c) := by
        rw [Array.getElem?_eq_getElem k1, ← e]
        simp [Array.getD, k1]
      simp [this]
    simp only [hy]
    cases c <;> cases want <;> rfl
omit hstep in
/-- The slots, and the rest beside memory, behind an operation. -/
theorem slots_step {S : Nat → Prop} {a : Act} {w w' : World} {μ μ' : Mu} (hd : dstsOK nt ops = true) (hI : AInv ops kb nt l0 T S F w0 μ0 a w μ) {i : Nat} {o : Oper} (ho : ops[i]? = some o) (hr : ∀ e ∈ o.after.toList, Region.binds .any e = true → S e.on)
    {y : Value} (hv : VR (restr μ' (ln T (i + 1))) (T i).v y) (hs : ∀ id L, μ id = some L → μ' id = some L) (he : Ext (ln T 0) μ μ') (hdm : ∀ id, μ' id ≠ none → μ id ≠ none ∨ (ln T i ≤ id ∧ id < ln T (i + 1)))
    (hm : ((∀ k o, (S k ∨ k = i) → ops[k]? = some o → touch o.op = true → k < kb) ∧ MemA T (fun k => S k ∨ k = i) F w0 μ' w') ∨ ∃ k, MemB ops kb T (fun k => S k ∨ k = i) F w0 μ' w' k) :
    AInv ops kb nt l0 T (fun k => S k ∨ k = i) F w0 μ0 (a.put o.dst y) w' μ' where
  lt k hk := by
    rcases hk with hk | rfl
    · exact hI.lt k hk
    · exact (Array.getElem?_eq_some_iff.1 ho).1
  closed k ok hk hok e he hb := by
    rcases hk with hk | rfl
    · exact .inl (hI.closed k ok hk hok e he hb)
    · rw [ho] at hok; cases hok
      exact .inl (hr e he hb)
  size := by rw [Act.size_put]; exact hI.size
  defers := by rw [Act.defers_put]; exact hI.defers
  s1 k ok t hk hok hdk := by
    have hput : ∀ d, o.dst = some d → d < a.tmps.size := fun d hd' => by rw [hI.size]; exact dstsOK_spec hd o (by rw [← Array.getElem?_toList] at ho; exact List.mem_of_getElem? ho) d hd'
    by_cases hki : k = i
    · subst hki
      rw [ho] at hok; cases hok
      have := hput t hdk
      rw [hdk]
      simpa [Act.put, this] using hv
    · have hS : S k := by rcases hk with h | h; exact h; exact absurd h hki
      have hne : o.dst ≠ some t := hchk.one i o k ok t ho hok (fun e => hki e.symm) hdk
      have : (a.put o.dst y).tmps.getD t undef = a.tmps.getD t undef := by
        cases hdo : o.dst with
        | none => rfl
        | some d => simp [Act.put, show d ≠ t from fun e => hne (by rw [hdo, e])]
      rw [this]
      exact (hI.s1 k ok t hS hok hdk).mono (restr_mono hs (Nat.le_refl _))
  s0 t x hno hx := by
    have h := hI.s0 t x (fun k ok hk => hno k ok (.inl hk)) hx
    have hne : o.dst ≠ some t := hno i o (.inr rfl) ho
    have : (a.put o.dst y).tmps.getD t undef = a.tmps.getD t undef := by
      cases hdo : o.dst with
      | none => rfl
      | some d => simp [Act.put, show d ≠ t from fun e => hne (by rw [hdo, e])]
    rw [this]
    exact ⟨h.1, h.2.mono (restr_mono hs (Nat.le_refl _))⟩
  dom id hid := by
    rcases hdm id hid with h | h
    · rcases hI.dom id h with h | ⟨j, h1, h2⟩
      · exact .inl h
      · exact .inr ⟨j, .inl h1, h2⟩
    · exact .inr ⟨i, .inr rfl, h⟩
  ext := hI.ext.trans he
  mem := hm
omit hchk in
/-- Operations that leave memory alone. -/
theorem same_mem {c i : Nat} (hci : c ≤ i) (hi : i ≤ ops.size) (h : ∀ j o, c ≤ j → j < i → ops[j]? = some o → touch o.op = false) : (T i).m = (T c).m := by
  induction i with
  | zero => rw [Nat.le_zero.1 hci]
  | succ i ih =>
    rcases Nat.lt_or_ge c (i + 1) with hc | hc
    · have ho : ops[i]? = some ops[i] := Array.getElem?_eq_getElem (by omega)
      rw [← ih (by omega) (by omega) fun j o h1 h2 => h j o h1 (by omega)]
      have ht := h i _ (by omega) (by omega) ho
      rcases (hstep i _ ho).does with h1 | h1 | h1 | h1
      · exact h1.2.2
      · exact h1.2.2.1
      · rw [ht] at h1; cases h1.2.2.1
      · rw [ht] at h1; cases h1.2.2.1
    · rw [show c = i + 1 by omega]
omit hchk in
/-- Before the first operation that writes blocks are only added. -/
theorem live_pre {c i id : Nat} (hci : c ≤ i) (hi : i ≤ ops.size) (h : ∀ j o, c ≤ j → j < i → ops[j]? = some o → touch o.op = true → j < kb) (hid : id < ln T c) : live (T i).m id = live (T c).m id := by
  induction i with
  | zero => rw [Nat.le_zero.1 hci]
  | succ i ih =>
    rcases Nat.lt_or_ge c (i + 1) with hc | hc
    · have ho : ops[i]? = some ops[i] := Array.getElem?_eq_getElem (by omega)
      rw [← ih (by omega) (by omega) fun j o h1 h2 => h j o h1 (by omega)]
      have hle := ln_mono hstep (show c ≤ i by omega) (by omega)
      rcases (hstep i _ ho).does with h1 | h1 | h1 | h1
      · rw [h1.2.2]
      · rw [h1.2.2.1]
      · obtain ⟨_, _, _, N, h2, _⟩ := h1
        rw [h2]
        unfold live
        rw [List.getElem?_append_left (Nat.lt_of_lt_of_le hid hle)]
      · have := h i _ (by omega) (by omega) ho h1.2.2.1
        omega
    · rw [show c = i + 1 by omega]
omit hchk hstep in
theorem memA_add {S : Nat → Prop} {μ : Mu} {w : World} (h : MemA T S F w0 μ w) {i : Nat} (hl : ln T (i + 1) = ln T i) : MemA T (fun k => S k ∨ k = i) F w0 μ w := by
  have hc : ∀ c id, Cls T (fun k => S k ∨ k = i) c id → Cls T S c id := fun c id hc => by
    rcases hc with hc | ⟨j, h1, h2 | rfl, h3, h4⟩
    · exact .inl hc
    · exact .inr ⟨j, h1, h2, h3, h4⟩
    · omega
  exact ⟨h.fr, fun c id B h1 h2 => h.blk c id B (hc _ _ h1) h2, fun c c' id id' B B' L L' h1 h2 => h.excl c c' id id' B B' L L' (hc _ _ h1) (hc _ _ h2)⟩
/-- What comes alone finds all blocks. -/
theorem full {S : Nat → Prop} {a : Act} {w : World} {μ : Mu} (h00 : (T 0).cr = []) (hI : AInv ops kb nt l0 T S F w0 μ0 a w μ) {i : Nat} {o : Oper} (ho : ops[i]? = some o) (hS : ¬ S i) (hr : ∀ e ∈ o.after.toList, Region.binds .any e = true → S e.on)
    (hk : kb ≤ i) (ht : touch o.op = true) : (∀ j o', ops[j]? = some o' → touch o'.op = true → (S j ↔ j < i)) ∧ RepM F w0 (restr μ (ln T i)) (T i).m w := by
  have hsz : i < ops.size := (Array.getElem?_eq_some_iff.1 ho).1
  have hall : ∀ j o', ops[j]? = some o' → touch o'.op = true → (S j ↔ j < i) := fun j o' ho' ht' => by
    refine ⟨fun hj => ?_, fun hj => pre_in hchk hI.closed i o ho hr j hj (hchk.alone i o j o' ho ho' hk ht hj ht')⟩
    rcases Nat.lt_trichotomy j i with h | h | h
    · exact h
    · subst h; exact absurd hj hS
    · exact absurd (pre_in hchk hI.closed j o' ho' (fun e he hb => hI.closed j o' hj ho' e he hb) i h (hchk.alone j o' i o ho' ho (by omega) ht' h ht)) hS
  refine ⟨hall, ?_⟩
  rcases hI.mem with ⟨hA, hM⟩ | ⟨k, hB⟩
  · have hno : ∀ j o', j < i → ops[j]? = some o' → touch o'.op = true → j < kb := fun j o' hj ho' ht' => hA j o' ((hall j o' ho' ht').2 hj) ho' ht'
    have hcls : ∀ id B, live (T i).m id = some B → ∃ c, c ≤ i ∧ Cls T S c id ∧ live (T c).m id = some B := fun id B hB => by
      have hid : id < ln T i := by
        rw [live_some] at hB
        exact (List.getElem?_eq_some_iff.1 hB).1
      rcases Nat.lt_or_ge id (ln T 0) with h | h
      · exact ⟨0, Nat.zero_le _, .inl ⟨rfl, h⟩, by rw [← live_pre hstep (Nat.zero_le i) (by omega) (fun j o' _ h2 => hno j o' h2) h]; exact hB⟩
      · obtain ⟨j, h1, _, h3, h4⟩ := (made hstep (Nat.le_of_lt hsz) h00).2 id h hid
        have hoj : ops[j]? = some ops[j] := Array.getElem?_eq_getElem (by omega)
        have htj : touch ops[j].op = true := by
          rcases (hstep j _ hoj).does with h5 | h5 | h5 | h5
          · have := h5.2.2; unfold ln at *; rw [this] at h4; omega
          · have := h5.2.2.1; unfold ln at *; rw [this] at h4; omega
          · exact h5.2.2.1
          · exact h5.2.2.1
        exact ⟨j + 1, by omega, .inr ⟨j, rfl, (hall j _ hoj htj).2 h1, h3, h4⟩, by rw [← live_pre hstep (show j + 1 ≤ i by omega) (by omega) (fun j o' _ h2 => hno j o' h2) h4]; exact hB⟩
    refine ⟨hM.fr.os, hM.fr.tape, hM.fr.output, hM.fr.size, hM.fr.frame, hM.fr.up, fun id B hB => ?_, fun id id' B B' L L' h1 h2 hne hl hl' => ?_⟩
    · obtain ⟨c, h1, h2, h3⟩ := hcls id B hB
      obtain ⟨L, k1, k2, k3⟩ := hM.blk c id B h2 h3
      have hid : id < ln T i := by
        rw [live_some] at hB
        exact (List.getElem?_eq_some_iff.1 hB).1
      exact ⟨L, by unfold restr; rw [if_pos hid]; exact k1, k2.mono (restr_mono (fun _ _ h => h) (ln_mono hstep h1 (by omega))), k3⟩
    · obtain ⟨c, _, a2, a3⟩ := hcls id B h1
      obtain ⟨c', _, b2, b3⟩ := hcls id' B' h2
      have un : ∀ {id L}, restr μ (ln T i) id = some L → μ id = some L := fun {id L} h => by
        unfold restr at h
        split at h
        · exact h
        · cases h
      exact hM.excl c c' id id' B B' L L' a2 b2 a3 b3 hne (un hl) (un hl')
  · obtain ⟨ok, hok, htk⟩ := hB.op
    have hki : k < i := (hall k ok hok htk).1 ((hB.all k ok hok htk).2 (Nat.le_refl _))
    have e : (T i).m = (T (k + 1)).m := same_mem hstep (show k + 1 ≤ i by omega) (by omega) fun j o' h1 h2 h3 => by
      cases ht' : touch o'.op with
      | false => rfl
      | true => have := (hB.all j o' h3 ht').1 ((hall j o' h3 ht').2 h2); omega
    have := hB.rep
    unfold ln at *
    rw [e]
    exact this
omit hstep hchk in
theorem vis_live {base : Nat} {cr : List Nat} {p : Nat → Bool} {m : Mem} {id : Nat} {B : Blk} (h : live (vis base cr p m) id = some B) : ∃ B', live m id = some B' ∧ B = { B' with rw := false } ∧ (id < base ∨ p (cr.getD (id - base) 0) = true) := by
  rw [live_some] at h
  unfold vis at h
  rw [List.getElem?_map, List.getElem?_zipIdx] at h
  cases hm : m[id]? with
  | none => rw [hm] at h; simp at h
  | some x =>
    rw [hm] at h
    simp only [Option.map_some, Nat.zero_add, Option.some.injEq] at h
    cases hc : (Nat.blt id base || p (cr.getD (id - base) 0)) with
    | false => rw [hc] at h; cases h
    | true =>
      rw [hc, cond_true] at h
      cases x with
      | none => cases h
      | some B' =>
        simp only [Option.map_some, Option.some.injEq] at h
        refine ⟨B', by rw [live_some, hm], h.symm, ?_⟩
        rcases Bool.or_eq_true_iff.1 hc with h1 | h1
        · exact .inl (Nat.blt_eq.mp h1)
        · exact .inr h1
omit hstep hchk in
theorem vis_len (base : Nat) (cr : List Nat) (p : Nat → Bool) (m : Mem) : (vis base cr p m).length = m.length := by simp [vis]
omit hstep hchk in
theorem holes_live (m : Mem) (id : Nat) (B : Blk) : live (holes m) id ≠ some B := by
  rw [ne_eq, live_some]
  simp [holes]
def joinMu (μ μ2 : Mu) (n n' : Nat) : Mu := fun id => if n ≤ id ∧ id < n' then μ2 id else μ id
/-- One operation, whichever is ready. -/
theorem any_step {S : Nat → Prop} {a : Act} {w : World} {μ : Mu} {Q : Exit → Act → World → Prop} {K : Act → World → Prop} (hd : dstsOK nt ops = true) (h00 : (T 0).cr = []) (hI : AInv ops kb nt l0 T S F w0 μ0 a w μ) {i : Nat} {o : Oper} (ho : ops[i]? = some o) (hS : ¬ S i)
    (hr : ∀ e ∈ o.after.toList, Region.binds .any e = true → S e.on) (hK : ∀ a' w' μ', AInv ops kb nt l0 T (fun k => S k ∨ k = i) F w0 μ0 a' w' μ' → K a' w') : wpOp P ops Q i K a w := by
  have hsz : i < ops.size := (Array.getElem?_eq_some_iff.1 ho).1
  have hstp := hstep i o ho
  have hle : ln T i ≤ ln T (i + 1) := hstp.len
  have hle0 := ln_mono hstep (Nat.zero_le i) (by omega)
  have hops := operands_ok hstep hchk hI ho hS hr
  unfold wpOp
  simp only [ho]
  -- nothing is added to the blocks, memory keeps
  have calm : ∀ {y : Value} {w' : World}, ln T (i + 1) = ln T i → (T (i + 1)).m = (T i).m → (touch o.op = true → kb ≤ i → False) → VR (restr μ (ln T i)) (T i).v y → w'.os = w.os → w'.tape = w.tape → w'.output = w.output → w.heap.size ≤ w'.heap.size →
      (∀ k, k < w.heap.size → w'.heap[k]? = w.heap[k]?) → K (a.put o.dst y) w' := fun {y w'} hl hmm hnb hv e1 e2 e3 e4 e5 => by
    refine hK _ _ μ (slots_step hchk hd hI ho hr (by rw [hl]; exact hv) (fun _ _ h => h) (Ext.refl _ _) (fun id h => .inl h) ?_)
    rcases hI.mem with ⟨hA, hM⟩ | ⟨k, hB⟩
    · refine .inl ⟨fun k ok hk hok ht => ?_, memA_add (hM.keep e1 e2 e3 e4 e5) hl⟩
      rcases hk with hk | rfl
      · exact hA k ok hk hok ht
      · rw [ho] at hok; cases hok
        rcases Nat.lt_or_ge k kb with h | h
        · exact h
        · exact (hnb ht h).elim
    · refine .inr ⟨k, hB.op, hB.le, fun j o' ho' ht' => ?_, hB.rep.keep e1 e2 e3 e4 e5⟩
      rw [← hB.all j o' ho' ht']
      refine ⟨fun h => ?_, .inl⟩
      rcases h with h | rfl
      · exact h
      · rw [ho] at ho'; cases ho'
        have hk : ¬ kb ≤ j := fun h => hnb ht' h
        exact (hB.all j o ho ht').2 (by have := hB.le; omega)
  rcases hstp.does with ⟨hw, hv, hm⟩ | ⟨hw, ht, hm, hop⟩ | ⟨hw, hi, ht, N, hm, hN, hop⟩ | ⟨hw, hi, ht, hop⟩
  · rw [if_neg (by rw [want_ok' hstep hchk hd hI ho hS hr hw]; simp)]
    by_cases hb : touch o.op = true ∧ kb ≤ i
    · obtain ⟨hall, hrep⟩ := full hstep hchk h00 hI ho hS hr hb.2 hb.1
      refine hK _ _ μ (slots_step hchk hd hI ho hr (by rw [hv]; exact vr_undef _) (fun _ _ h => h) (Ext.refl _ _) (fun id h => .inl h) (.inr ⟨i, ⟨o, ho, hb.1⟩, hb.2, fun j o' ho' ht' => ?_, ?_⟩))
      · rw [hall j o' ho' ht']; omega
      · unfold ln at *
        rw [hm]
        exact hrep
    · exact calm (by unfold ln; rw [hm]) hm (fun h1 h2 => hb ⟨h1, h2⟩) (by rw [hv]; exact vr_undef _) rfl rfl rfl (Nat.le_refl _) (fun _ _ => rfl)
  · rw [if_pos (want_ok' hstep hchk hd hI ho hS hr hw)]
    refine .inl (hop.ok (fun k => w.heap.size ≤ k) w (restr μ (ln T i)) a w K Q (by simpa [holes] using restr_dom μ (ln T i)) ⟨rfl, rfl, rfl, Nat.le_refl _, fun _ _ => rfl, (by rcases hI.mem with ⟨_, hM⟩ | ⟨_, hB⟩; exact hM.fr.here; exact ⟨fun _ h => h, hB.rep.here⟩), fun id B hB => (holes_live _ _ _ hB).elim, fun id id' B B' L L' h1 => (holes_live _ _ _ h1).elim⟩
      (fun x u hx hu => hops x u hx hu) fun μ2 y w' he hdm hrp hv => ?_)
    have e : μ2 = restr μ (ln T i) := by
      funext id
      rcases Nat.lt_or_ge id (ln T i) with h | h
      · exact he id (by simpa [holes] using h)
      · rw [hdm id (by simpa [holes] using h), restr_dom μ _ id h]
    subst e
    exact calm (by unfold ln; rw [hm]) hm (fun h => by rw [ht] at h; cases h) hv hrp.os hrp.tape hrp.output hrp.size fun k hk => hrp.frame k (by omega)
  · rw [if_pos (want_ok' hstep hchk hd hI ho hS hr hw)]
    rcases hI.mem with ⟨hA, hM⟩ | ⟨k, hB⟩
    case inr => exact absurd ((hB.all i o ho ht).2 (by have := hB.le; omega)) hS
    have hlN : ln T (i + 1) = ln T i + N.length := by unfold ln; rw [hm, List.length_append]
    have hcls : ∀ id B, live (vis (ln T 0) (T i).cr (fun j => (M.getD i 0).testBit j) (T i).m) id = some B → id < ln T i ∧ ∃ B' c, c ≤ i ∧ B = { B' with rw := false } ∧ Cls T S c id ∧ live (T c).m id = some B' := fun id B hB => by
      obtain ⟨B', h1, h2, h3⟩ := vis_live hB
      have hid : id < ln T i := by
        rw [live_some] at h1
        exact (List.getElem?_eq_some_iff.1 h1).1
      refine ⟨hid, B', ?_⟩
      have early : ∀ (c j : Nat) (o' : Oper), c ≤ j → j < i → ops[j]? = some o' → touch o'.op = true → j < kb := fun c j o' _ h _ _ => by omega
      rcases Nat.lt_or_ge id (ln T 0) with h | h
      · exact ⟨0, Nat.zero_le _, h2, .inl ⟨rfl, h⟩, by rw [← live_pre hstep (Nat.zero_le i) (by omega) (early 0) h]; exact h1⟩
      · obtain ⟨j, k1, k2, k3, k4⟩ := (made hstep (Nat.le_of_lt hsz) h00).2 id h hid
        rcases h3 with h3 | h3
        · omega
        · rw [k2] at h3
          exact ⟨j + 1, by omega, h2, .inr ⟨j, rfl, pre_in hchk hI.closed i o ho hr j k1 h3, k3, k4⟩, by rw [← live_pre hstep (show j + 1 ≤ i by omega) (by omega) (early _) k4]; exact h1⟩
    have hrep : RepM (fun k => w.heap.size ≤ k) w (restr μ (ln T i)) (vis (ln T 0) (T i).cr (fun j => (M.getD i 0).testBit j) (T i).m) w := by
      refine ⟨rfl, rfl, rfl, Nat.le_refl _, fun _ _ => rfl, hM.fr.here, fun id B hB => ?_, fun id id' B B' L L' h1 h2 hne hl hl' hrw => ?_⟩
      · obtain ⟨hid, B', c, hc, rfl, h1, h2⟩ := hcls id B hB
        obtain ⟨L, k1, k2, k3⟩ := hM.blk c id B' h1 h2
        have k2' := k2.mono (restr_mono (μ' := μ) (fun _ _ h => h) (ln_mono hstep hc (by omega)))
        exact ⟨L, by unfold restr; rw [if_pos hid]; exact k1, ⟨fun h => (by cases h), k2'.z, k2'.cells, fun hr hb => k2'.row hr (.inr (by rcases hb with hb | hb; cases hb.1; exact hb)), k2'.mN⟩, fun h => (by cases h.1)⟩
      · obtain ⟨_, B1, _, _, rfl, _⟩ := hcls id B h1
        cases hrw.1
    refine .inl (hop.ok (fun k => w.heap.size ≤ k) w (restr μ (ln T i)) a w K Q (by rw [vis_len]; exact restr_dom μ _) hrep (fun x u hx hu => hops x u hx hu) fun μ2 y w' he hdm hrp hv => ?_)
    rw [vis_len] at he
    rw [List.length_append, vis_len] at hdm
    have hfresh : ∀ id, ln T i ≤ id → id < ln T (i + 1) → μ id = none := fun id h1 h2 => by
      cases hq : μ id with
      | none => rfl
      | some L =>
        rcases hI.dom id (by rw [hq]; simp) with h | ⟨j, h3, h4, h5⟩
        · omega
        · have hj := hI.lt j h3
          rcases Nat.lt_trichotomy j i with h | h | h
          · have := ln_mono hstep (show j + 1 ≤ i by omega) (by omega); omega
          · subst h; exact absurd h3 hS
          · have := ln_mono hstep (show i + 1 ≤ j by omega) (by omega); omega
    have hsub : ∀ id L, μ id = some L → joinMu μ μ2 (ln T i) (ln T (i + 1)) id = some L := fun id L h => by
      unfold joinMu
      split
      · rename_i hc; rw [hfresh id hc.1 hc.2] at h; cases h
      · exact h
    have hres : restr (joinMu μ μ2 (ln T i) (ln T (i + 1))) (ln T (i + 1)) = μ2 := by
      funext id
      unfold restr joinMu
      rcases Nat.lt_or_ge id (ln T (i + 1)) with h | h
      · rw [if_pos h]
        rcases Nat.lt_or_ge id (ln T i) with h' | h'
        · rw [if_neg (by omega), he id h']
          unfold restr
          rw [if_pos h']
        · rw [if_pos ⟨h', h⟩]
      · rw [if_neg (by omega), hdm id (by have hl0 : (T i).m.length = ln T i := rfl; omega)]
    have hold : ∀ {id : Nat}, id < ln T i → joinMu μ μ2 (ln T i) (ln T (i + 1)) id = μ id := fun {id} h => by unfold joinMu; rw [if_neg (by omega)]
    have hMk := hM.keep (w' := w') hrp.os hrp.tape hrp.output hrp.size fun k hk => hrp.frame k (by omega)
    refine hK _ _ (joinMu μ μ2 (ln T i) (ln T (i + 1))) (slots_step hchk hd hI ho hr (by rw [hres]; exact hv) hsub (fun id h => hold (by omega)) (fun id h => ?_) (.inl ⟨fun k ok hk hok htk => ?_, hMk.fr, fun c id B hc hB => ?_, fun c c' id id' B B' L L' hc hc' hB hB' hne hL hL' hrw hb => ?_⟩))
    · by_cases hc : ln T i ≤ id ∧ id < ln T (i + 1)
      · exact .inr hc
      · left
        unfold joinMu at h
        rwa [if_neg hc] at h
    · rcases hk with hk | rfl
      · exact hA k ok hk hok htk
      · exact hi
    · have old : Cls T S c id → _ := fun hc => hMk.blk c id B hc hB
      rcases hc with hc | ⟨j, rfl, hj | rfl, h3, h4⟩
      · obtain ⟨L, k1, k2, k3⟩ := old (.inl hc)
        exact ⟨L, hsub _ _ k1, k2.mono (restr_mono hsub (Nat.le_refl _)), k3⟩
      · obtain ⟨L, k1, k2, k3⟩ := old (.inr ⟨j, rfl, hj, h3, h4⟩)
        exact ⟨L, hsub _ _ k1, k2.mono (restr_mono hsub (Nat.le_refl _)), k3⟩
      · have hB' : live (vis (ln T 0) (T j).cr (fun k => (M.getD j 0).testBit k) (T j).m ++ N) id = some B := by
          rw [hm, live_some, List.getElem?_append_right h3] at hB
          rw [live_some, List.getElem?_append_right (by rw [vis_len]; exact h3), vis_len]
          exact hB
        obtain ⟨L, k1, k2, k3⟩ := hrp.blk id B hB'
        refine ⟨L, by unfold joinMu; rw [if_pos ⟨h3, h4⟩]; exact k1, by rw [hres]; exact k2, fun h => hM.fr.up _ (Nat.le_trans hM.fr.size (k3 h))⟩
    · have hnew : ∀ {c id B L}, Cls T (fun k => S k ∨ k = i) c id → live (T c).m id = some B → joinMu μ μ2 (ln T i) (ln T (i + 1)) id = some L → Takes B L →
          (Cls T S c id ∧ μ id = some L ∧ L.b < w.heap.size) ∨ (live (vis (ln T 0) (T i).cr (fun k => (M.getD i 0).testBit k) (T i).m ++ N) id = some B ∧ μ2 id = some L ∧ w.heap.size ≤ L.b ∧ Rw B L) := fun {c id B L} hc hB hL hb => by
        have old : Cls T S c id → (Cls T S c id ∧ μ id = some L ∧ L.b < w.heap.size) := fun hc => by
          obtain ⟨L', k1, k2, k3⟩ := hM.blk c id B hc hB
          rw [hsub _ _ k1] at hL
          cases hL
          exact ⟨hc, k1, k2.lt hb⟩
        rcases hc with hc | ⟨j, rfl, hj | rfl, h3, h4⟩
        · exact .inl (old (.inl hc))
        · exact .inl (old (.inr ⟨j, rfl, hj, h3, h4⟩))
        · right
          have hid : ¬ id < ln T j := by omega
          have hmem : (N[id - ln T j]?) = some (some B) := by
            rw [hm, live_some, List.getElem?_append_right h3] at hB
            exact hB
          have hB' : live (vis (ln T 0) (T j).cr (fun k => (M.getD j 0).testBit k) (T j).m ++ N) id = some B := by
            rw [live_some, List.getElem?_append_right (by rw [vis_len]; exact h3), vis_len]
            exact hmem
          have hrw' : B.rw = true := by
            have := List.all_eq_true.1 hN (some B) (List.mem_of_getElem? hmem)
            exact this
          obtain ⟨L', k1, k2, k3⟩ := hrp.blk id B hB'
          unfold joinMu at hL
          rw [if_pos ⟨h3, h4⟩] at hL
          rw [k1] at hL; cases hL
          have hrw' := k2.act hrw' hb
          exact ⟨hB', k1, k3 hrw', hrw'⟩
      rcases hnew hc hB hL (.inl hrw) with ⟨p1, p2, p3⟩ | ⟨p1, p2, p3, p4⟩ <;> rcases hnew hc' hB' hL' hb with ⟨q1, q2, q3⟩ | ⟨q1, q2, q3, q4⟩
      · exact hM.excl c c' id id' B B' L L' p1 q1 hB hB' hne p2 q2 hrw hb
      · omega
      · omega
      · exact hrp.excl id id' B B' L L' p1 q1 hne p2 q2 p4 (.inl q4)
  · rw [if_pos (want_ok' hstep hchk hd hI ho hS hr hw)]
    obtain ⟨hall, hrep⟩ := full hstep hchk h00 hI ho hS hr hi ht
    refine .inl (hop.ok F w0 (restr μ (ln T i)) a w K Q (restr_dom μ _) hrep (fun x u hx hu => hops x u hx hu) fun μ2 y w' he hdm hrp hv => ?_)
    have hfresh : ∀ id, ln T i ≤ id → id < ln T (i + 1) → μ id = none := fun id h1 h2 => by
      cases hq : μ id with
      | none => rfl
      | some L =>
        rcases hI.dom id (by rw [hq]; simp) with h | ⟨j, h3, h4, h5⟩
        · omega
        · have hj := hI.lt j h3
          rcases Nat.lt_trichotomy j i with h | h | h
          · have := ln_mono hstep (show j + 1 ≤ i by omega) (by omega); omega
          · subst h; exact absurd h3 hS
          · have := ln_mono hstep (show i + 1 ≤ j by omega) (by omega); omega
    have hsub : ∀ id L, μ id = some L → joinMu μ μ2 (ln T i) (ln T (i + 1)) id = some L := fun id L h => by
      unfold joinMu
      split
      · rename_i hc; rw [hfresh id hc.1 hc.2] at h; cases h
      · exact h
    have hres : restr (joinMu μ μ2 (ln T i) (ln T (i + 1))) (ln T (i + 1)) = μ2 := by
      funext id
      unfold restr joinMu
      rcases Nat.lt_or_ge id (ln T (i + 1)) with h | h
      · rw [if_pos h]
        rcases Nat.lt_or_ge id (ln T i) with h' | h'
        · rw [if_neg (by omega), he id h']
          unfold restr
          rw [if_pos h']
        · rw [if_pos ⟨h', h⟩]
      · rw [if_neg (by omega), hdm id h]
    refine hK _ _ (joinMu μ μ2 (ln T i) (ln T (i + 1))) (slots_step hchk hd hI ho hr (by rw [hres]; exact hv) hsub (fun id h => by unfold joinMu; rw [if_neg (by omega)]) (fun id h => ?_) (.inr ⟨i, ⟨o, ho, ht⟩, hi, fun j o' ho' ht' => ?_, by rw [hres]; exact hrp⟩))
    · by_cases hc : ln T i ≤ id ∧ id < ln T (i + 1)
      · exact .inr hc
      · left
        unfold joinMu at h
        rwa [if_neg hc] at h
    · rw [hall j o' ho' ht']; omega
theorem any_sound {Q : Exit → Act → World → Prop} (hd : dstsOK nt ops = true) (h00 : (T 0).cr = []) (hQ : ∀ a w μ, AInv ops kb nt l0 T (fun i => i < ops.size) F w0 μ0 a w μ → Q .normal a w) :
    ∀ (fuel : Nat) (listed : Array Bool) (a : Act) (w : World) (μ : Mu), listed.size = ops.size → ((List.range ops.size).countP fun i => !listed.getD i false) ≤ fuel → AInv ops kb nt l0 T (fun i => listed.getD i false = true) F w0 μ0 a w μ →
      wpAny P .any ops Q fuel listed a w := by
  have full : ∀ (listed : Array Bool) (a : Act) (w : World) (μ : Mu), listed.size = ops.size → AInv ops kb nt l0 T (fun i => listed.getD i false = true) F w0 μ0 a w μ → Region.ready .any ops listed = [] → Q .normal a w := fun listed a w μ hsz hI hr => by
    have hall : ∀ i, i < ops.size → listed.getD i false = true := by
      intro i
      induction i using Nat.strongRecOn with
      | _ i ih =>
        intro hi
        cases hl : listed.getD i false with
        | true => rfl
        | false =>
          have ho : ops[i]? = some ops[i] := Array.getElem?_eq_getElem hi
          have : i ∈ Region.ready .any ops listed := mem_ready.2 ⟨by simp [Array.getD, hsz, hi] at hl ⊢; exact hl, _, ho, fun e he hb => by
            have := hchk.edge i _ ho e (by simpa using he) hb
            exact ih e.on this (by omega)⟩
          rw [hr] at this
          cases this
    have e : (fun i => listed.getD i false = true) = fun i => i < ops.size := by
      funext i
      apply propext
      refine ⟨fun h => hI.lt i h, hall i⟩
    rw [e] at hI
    exact hQ a w μ hI
  intro fuel
  induction fuel with
  | zero =>
    intro listed a w μ hsz hc hI
    have hr : Region.ready .any ops listed = [] := by
      apply List.eq_nil_iff_forall_not_mem.2
      intro i hi
      obtain ⟨h1, o, ho, _⟩ := mem_ready.1 hi
      have hi' : i < ops.size := (Array.getElem?_eq_some_iff.1 ho).1
      have := List.countP_eq_zero.1 (Nat.le_zero.1 hc) i (List.mem_range.2 hi')
      simp [Array.getD, hsz, hi'] at h1 this
      rw [h1] at this; cases this
    exact ⟨hr, full listed a w μ hsz hI hr⟩
  | succ fuel ih =>
    intro listed a w μ hsz hc hI
    refine ⟨full listed a w μ hsz hI, fun i hi => ?_⟩
    obtain ⟨h1, o, ho, he⟩ := mem_ready.1 hi
    have hi' : i < ops.size := (Array.getElem?_eq_some_iff.1 ho).1
    have hS : ¬ listed.getD i false = true := by
      simp [Array.getD, hsz, hi'] at h1 ⊢
      exact h1
    refine any_step hstep hchk hd h00 hI ho hS (fun e hem hb => he e (by simpa using hem) hb) fun a' w' μ' hI' => ?_
    refine ih _ a' w' μ' (by simpa using hsz) ?_ ?_
    · have hlt : ((List.range ops.size).countP fun j => !(listed.setIfInBounds i true).getD j false) < (List.range ops.size).countP fun j => !listed.getD j false := by
        refine countP_lt (a := i) (fun j hj h => ?_) (List.mem_range.2 hi') (by simpa using hS) (by simp [Array.getD, hsz, hi'])
        have hj' := List.mem_range.1 hj
        by_cases hij : i = j
        · subst hij; simp [Array.getD, hsz, hi'] at h
        · simpa [Array.getD, hsz, hj', Array.getElem_setIfInBounds_ne, hij] using h
      omega
    · have e : (fun j => (listed.setIfInBounds i true).getD j false = true) = fun k => listed.getD k false = true ∨ k = i := by
        funext j
        apply propext
        by_cases hij : i = j
        · subst hij; simp [Array.getD, hsz, hi']
        · have : (listed.setIfInBounds i true).getD j false = listed.getD j false := by
            simp only [Array.getD, Array.size_setIfInBounds]
            split
            · exact Array.getElem_setIfInBounds_ne _ hij
            · rfl
          rw [this]
          constructor
          · exact .inl
          · rintro (h | h)
            · exact h
            · exact absurd h.symm hij
      rw [e]
      exact hI'
end
/-- A region that draws its order. -/
theorem aw_region_d {P : Program} {nt n0 : Nat} {Q : Exit → Slots → Mem → Prop} {σ : Slots} {m : Mem} {id : Nat} {ops : Array Oper} (M : List Nat) (kb : Nat) (hf : P.follows .mixedOrders = true) (hc : chkD ops M kb = true) (hd : dstsOK nt ops = true) (hn : n0 ≤ m.length)
    (h : RunD P ops M kb m.length (fun σ' m' => Q .normal σ' m') 0 ops.toList σ m []) : AW P nt n0 (.region id ops true) Q σ m := by
  constructor
  intro rd F w0 μ a w _ hr
  obtain ⟨T, h1, h2, h3, h4, σe, h5, h6⟩ := trace h
  have hstep : ∀ (j : Nat) (o : Oper), ops[j]? = some o → Step P ops M kb (ln T 0) j o (T j).σ (T j).m (T j).cr (T j).v (T (j + 1)).σ (T (j + 1)).m (T (j + 1)).cr := fun j o ho => by
    have := h4 j o (by rw [Array.getElem?_toList]; exact ho)
    rw [Nat.zero_add] at this
    unfold ln
    rw [h2]
    exact this
  have hl0 : ln T 0 = m.length := by unfold ln; rw [h2]
  have hlen : ops.toList.length = ops.size := by simp
  refine wpIn_mono (Q := NormalQ fun a' w' => Pt rd nt n0 F w0 μ a.defers Q .normal a' w') (wpIn_region_any hf (wpAny_in (fun ⟨_, _, h⟩ => h) (dstsOK_nd hd) _ _ _ _ (any_sound hstep (chkD_spec hc) (nt := nt) (F := F) (w0 := w0) (μ0 := μ) (l0 := a.defers) hd h3 (fun a' w' μ' hI => ?_) ops.size _ a _ μ (by simp) ?_ ?_))) (fun e a' w' hq => by cases e <;> first | exact hq | exact hq.elim)
  · have hle := ln_mono hstep (Nat.zero_le ops.size) (Nat.le_refl _)
    have hmono : ∀ j, j < ops.size → ln T (j + 1) ≤ ln T ops.size := fun j hj => ln_mono hstep (by omega) (Nat.le_refl _)
    have hdom : Dom μ' (ln T ops.size) := fun id hid => by
      cases hq : μ' id with
      | none => rfl
      | some L =>
        rcases hI.dom id (by rw [hq]; simp) with h | ⟨j, k1, k2, k3⟩
        · omega
        · have := hmono j k1; omega
    have hres : restr μ' (ln T ops.size) = μ' := by
      funext id
      unfold restr
      split
      · rfl
      · exact (hdom id (by omega)).symm
    refine ⟨F, w0, μ', σe, (T ops.size).m, by rw [hI.defers]; exact Reb.refl _ _ _ _, fun id hid => hI.ext id (by omega), ⟨hI.size, by rw [hI.defers]; exact hr.defers, fun t x hx => ?_, ?_, hdom⟩, by rw [hlen] at h6; exact h6⟩
    · have hx := h5 t x hx
      rw [hlen] at hx
      rcases hist hstep (Nat.le_refl _) t x hx with ⟨j, o, k1, k2, k3, rfl⟩ | ⟨k1, k2⟩
      · refine ⟨?_, (hI.s1 j o t k1 k2 k3).mono (fun id L h => by unfold restr at h; split at h; exact h; cases h)⟩
        rw [hI.size]
        exact dstsOK_spec hd o (by rw [← Array.getElem?_toList] at k2; exact List.mem_of_getElem? k2) t k3
      · have := hI.s0 t x (fun i o hi ho => k1 i o hi ho) k2
        exact ⟨by rw [hI.size]; exact this.1, this.2.mono (fun id L h => by unfold restr at h; split at h; exact h; cases h)⟩
    · rcases hI.mem with ⟨hA, hM⟩ | ⟨k, hB⟩
      · have hcls : ∀ id B, live (T ops.size).m id = some B → ∃ c, c ≤ ops.size ∧ Cls T (fun i => i < ops.size) c id ∧ live (T c).m id = some B := fun id B hB => by
          have hid : id < ln T ops.size := by
            rw [live_some] at hB
            exact (List.getElem?_eq_some_iff.1 hB).1
          have early : ∀ (c j : Nat) (o' : Oper), c ≤ j → j < ops.size → ops[j]? = some o' → touch o'.op = true → j < kb := fun c j o' _ h ho ht => hA j o' h ho ht
          rcases Nat.lt_or_ge id (ln T 0) with h | h
          · exact ⟨0, Nat.zero_le _, .inl ⟨rfl, h⟩, by rw [← live_pre hstep (Nat.zero_le _) (Nat.le_refl _) (early 0) h]; exact hB⟩
          · obtain ⟨j, k1, _, k3, k4⟩ := (made hstep (Nat.le_refl _) h3).2 id h hid
            exact ⟨j + 1, by omega, .inr ⟨j, rfl, k1, k3, k4⟩, by rw [← live_pre hstep (show j + 1 ≤ ops.size by omega) (Nat.le_refl _) (early _) k4]; exact hB⟩
        refine ⟨hM.fr.os, hM.fr.tape, hM.fr.output, hM.fr.size, hM.fr.frame, hM.fr.up, fun id B hB => ?_, fun id id' B B' L L' a1 a2 hne hl hl' => ?_⟩
        · obtain ⟨c, _, b2, b3⟩ := hcls id B hB
          obtain ⟨L, k1, k2, k3⟩ := hM.blk c id B b2 b3
          exact ⟨L, k1, k2.mono (fun id L h => by unfold restr at h; split at h; exact h; cases h), k3⟩
        · obtain ⟨c, _, b2, b3⟩ := hcls id B a1
          obtain ⟨c', _, b2', b3'⟩ := hcls id' B' a2
          exact hM.excl c c' id id' B B' L L' b2 b2' b3 b3' hne hl hl'
      · obtain ⟨o, ho, ht⟩ := hB.op
        have hks : k < ops.size := (Array.getElem?_eq_some_iff.1 ho).1
        have e : (T ops.size).m = (T (k + 1)).m := same_mem hstep (show k + 1 ≤ ops.size by omega) (Nat.le_refl _) fun j o' j1 j2 j3 => by
          cases ht' : touch o'.op with
          | false => rfl
          | true => have := (hB.all j o' j3 ht').1 j2; omega
        have hrep := hB.rep
        have e2 : ln T (k + 1) = ln T ops.size := by unfold ln; rw [e]
        rw [e2, hres] at hrep
        rw [e]
        exact hrep
  · exact Nat.le_trans List.countP_le_length (by simp)
  · have hno : ∀ i, ¬ (Array.replicate ops.size false).getD i false = true := fun i h => by
      simp [Array.getD] at h
    have hdom0 : restr μ (ln T 0) = μ := by
      funext id
      unfold restr
      split
      · rfl
      · exact (hr.dom id (by omega)).symm
    refine ⟨fun i h => (hno i h).elim, fun i o h => (hno i h).elim, hr.nt, rfl, fun i o t h => (hno i h).elim, fun t x _ hx => ?_, fun id h => ?_, Ext.refl _ _, .inl ⟨fun k o h => (hno k h).elim, ?_⟩⟩
    · rw [h1] at hx
      rw [hdom0, ← hr.nt]
      exact hr.slots t x hx
    · left
      rcases Nat.lt_or_ge id (ln T 0) with h' | h'
      · exact h'
      · exact absurd (hr.dom id (by omega)) h
    · have hm := hr.mem.drew
      have hcl : ∀ c id, Cls T (fun i => (Array.replicate ops.size false).getD i false = true) c id → c = 0 := fun c id h => by
        rcases h with h | ⟨j, _, h, _⟩
        · exact h.1
        · exact (hno j h).elim
      refine ⟨⟨hm.os, hm.tape, hm.output, hm.size, hm.frame, hm.up⟩, fun c id B hc hB => ?_, fun c c' id id' B B' L L' hc hc' hB hB' => ?_⟩
      · have := hcl c id hc
        subst this
        rw [h2] at hB
        rw [hdom0]
        exact hm.blk id B hB
      · have e1 := hcl c id hc
        have e2 := hcl c' id' hc'
        subst e1 e2
        rw [h2] at hB hB'
        exact hm.excl id id' B B' L L' hB hB'
end Go.Proofs.YtdenooeaiicheaaGreat.Av
