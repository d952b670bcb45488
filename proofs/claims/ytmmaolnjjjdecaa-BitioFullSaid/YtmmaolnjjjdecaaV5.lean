/- Walking in numbers of one's own: the operations that read or write memory. -/
import Derived.Test.YtmmaolnjjjdecaaV4
set_option linter.unusedVariables false
set_option linter.unusedSimpArgs false
namespace Go.Proofs.Ytmmaolnjjjdecaa.Av
/-- A block is added: m' is m with B behind it; its number is n. -/
inductive AppR (B : Option Blk) : Mem → Mem → Nat → Prop
  | nil : AppR B [] [B] 0
  | cons {x m m' n} : AppR B m m' n → AppR B (x :: m) (x :: m') (n + 1)
theorem AppR.spec {B m m' n} (h : AppR B m m' n) : m' = m ++ [B] ∧ n = m.length := by induction h <;> simp [*]
/-- A block is replaced. -/
inductive SetR (B : Option Blk) : Mem → Nat → Mem → Prop
  | zero {x m} : SetR B (x :: m) 0 (B :: m)
  | succ {x m n m'} : SetR B m n m' → SetR B (x :: m) (n + 1) (x :: m')
theorem SetR.spec {B m n m'} (h : SetR B m n m') : m' = m.set n B := by induction h <;> simp [*]
/-- A list written out. -/
inductive ListR : List Value → List Value → Prop
  | nil : ListR [] []
  | cons {x l l'} : ListR l l' → ListR (x :: l) (x :: l')
theorem ListR.spec {l l'} (h : ListR l l') : l = l' := by induction h <;> simp [*]
theorem ListR.refl (l : List Value) : ListR l l := by
  induction l with
  | nil => exact .nil
  | cons x l ih => exact .cons ih
theorem field_get {P : Program} {t : TypeId} {fs : List (TypeId × Nat)} [h : TyF P t fs] {i : Nat} {x} (hx : fs[i]? = some x) : ∃ gs f, P.underlying t = some (.struct gs) ∧ gs[i]? = some f ∧ x = (f.type, f.offset) := by
  obtain ⟨gs, h1, h2⟩ := h.eq
  subst h2
  rw [List.getElem?_map, Array.getElem?_toList] at hx
  cases hf : gs[i]? with
  | none => rw [hf] at hx; cases hx
  | some f => rw [hf] at hx; simp at hx; exact ⟨gs, f, h1, hf, hx.symm⟩
/-- The part of an aggregate at an offset. -/
inductive PartR (P : Program) (e : TypeId) (cs : List Value) (o : Nat) : Value → Prop
  | one {d v} : P.underlying e = some d → aggD d = false → TakeR cs o 1 [v] → PartR P e cs o v
  | agg {d n b z xs} : P.underlying e = some d → aggD d = true → TyI P e n b z → TakeR cs o n xs → PartR P e cs o (.agg xs.toArray)
theorem take_vr {μ : Mu} {xs ys : Array Value} {l : List Value} {o n : Nat} (hs : xs.size = ys.size) (h : ∀ (i : Nat) u v, xs[i]? = some u → ys[i]? = some v → VR μ u v) (ht : TakeR xs.toList o n l) (ho : o + n ≤ xs.size) :
    (ys.extract o (o + n)).size = n ∧ l.length = n ∧ ∀ (i : Nat) u v, l[i]? = some u → (ys.extract o (o + n))[i]? = some v → VR μ u v := by
  obtain ⟨t1, t2⟩ := ht.spec
  refine ⟨by simp; omega, t1, fun i u v hu hv => ?_⟩
  have hi : i < n := by
    rcases Nat.lt_or_ge i n with h' | h'
    · exact h'
    · rw [List.getElem?_eq_none (by omega)] at hu; cases hu
  rw [← t2 i hi, Array.getElem?_toList] at hu
  refine h (o + i) u v hu ?_
  rw [Array.getElem?_extract] at hv
  split at hv
  · exact hv
  · cases hv
theorem TakeR.le {l o n xs} (h : TakeR l o n xs) : o + n ≤ l.length := by
  induction h with
  | nil => simp
  | cons _ ih => simp; omega
  | skip _ ih => simp; omega
theorem run_part {P : Program} {μ : Mu} {e : TypeId} {xs ys : Array Value} {o : Nat} {v : Value} (hs : xs.size = ys.size) (h : ∀ (i : Nat) u v, xs[i]? = some u → ys[i]? = some v → VR μ u v) (hp : PartR P e xs.toList o v) (w : World) :
    ∃ y, (part e ys o).run P w = .ok y w ∧ VR μ v y := by
  cases hp with
  | one hd ha ht =>
    have hle := ht.le
    rw [Array.length_toList] at hle
    obtain ⟨t1, t2⟩ := ht.spec
    have hy : ys[o]? = some ys[o] := Array.getElem?_eq_getElem (by omega)
    have hx := t2 0 (by omega)
    simp only [Nat.add_zero, Array.getElem?_toList, List.getElem?_cons_zero] at hx
    exact ⟨ys[o], by simp [part, run_isAgg hd, ha, hy], h o _ _ hx hy⟩
  | agg hd ha hi ht =>
    obtain ⟨i, z, h1, h2, _⟩ := hi.ex
    have hle := ht.le
    rw [Array.length_toList] at hle
    obtain ⟨k1, k2, k3⟩ := take_vr hs h ht hle
    refine ⟨_, by simp only [part, Sem.run_bind, run_isAgg hd, ha, Result.andThen_ok, if_true, run_size h1, h2]; rfl, .agg (by simp [k1, k2]) fun i u v hu hv => k3 i u v (by simpa using hu) hv⟩
section
variable {P : Program} {ρ : Operand → Option Value} {m : Mem} {d : Option Tmp} {t : TypeId} {pp : String} {af : Array Edge} {g : Option (Nat × Bool)}
theorem ok_extract {x : Operand} {vs : Array Value} {i : Nat} {v : Value} (hx : ρ x = some (.tuple vs)) (hv : vs.toList[i]? = some v) : OpOK P ⟨d, .extract x i, t, pp, af, g⟩ ρ m v m := .val fun _ _ _ A w _ _ ho => by
  obtain ⟨ys, e, h1, h2⟩ := (ho x _ (by simp [Op.operands]) hx).tuple'
  rw [Array.getElem?_toList] at hv
  have hlt : i < vs.size := by
    rcases Nat.lt_or_ge i vs.size with h' | h'
    · exact h'
    · rw [Array.getElem?_eq_none h'] at hv; cases hv
  have hy : ys[i]? = some ys[i] := Array.getElem?_eq_getElem (by omega)
  exact ⟨ys[i], by simp [execOp, e, Instr.extract, hy], h2 i v _ hv hy⟩
theorem ok_field {xt : TypeId} {x : Operand} {f : Nat} {fs : List (TypeId × Nat)} {xs : Array Value} {ft : TypeId} {o : Nat} {v : Value} [TyF P xt fs] (hx : ρ x = some (.agg xs)) (hf : fs[f]? = some (ft, o)) (hp : PartR P ft xs.toList o v) :
    OpOK P ⟨d, .field xt x f, t, pp, af, g⟩ ρ m v m := .val fun _ _ μ A w _ _ ho => by
  obtain ⟨ys, e, h1, h2⟩ := (ho x _ (by simp [Op.operands]) hx).agg'
  obtain ⟨gs, fd, k0, k1, k2⟩ := field_get (P := P) (t := xt) hf
  cases k2
  obtain ⟨y, j1, j2⟩ := run_part h1 h2 hp w
  exact ⟨y, by simp [execOp, e, Instr.field, run_und k0, k1, asAgg, j1], j2⟩
theorem ok_index {xt : TypeId} {x y : Operand} {xs : Array Value} {n : Nat} {e : TypeId} {k : IntKind} {i : Int} {v : Value} {sz b z} [Ty P xt (.array n e)] [TyI P e sz b z] (hx : ρ x = some (.agg xs)) (hy : ρ y = some (.int k i)) (h : 0 ≤ i ∧ i < n) (hp : PartR P e xs.toList (i.toNat * sz) v) :
    OpOK P ⟨d, .index xt x y, t, pp, af, g⟩ ρ m v m := .val fun _ _ μ A w _ _ ho => by
  obtain ⟨ys, e1, h1, h2⟩ := (ho x _ (by simp [Op.operands]) hx).agg'
  have e2 := (ho y _ (by simp [Op.operands]) hy).int'
  obtain ⟨ti, _, k1, k2, _⟩ := TyI.ex (P := P) (t := e)
  obtain ⟨y, j1, j2⟩ := run_part h1 h2 hp w
  refine ⟨y, ?_, j2⟩
  simp only [execOp, e1, e2, Instr.index, asIntOf, Sem.run_bind, Sem.run_pure, Result.andThen_ok, run_und (Ty.eq (P := P) (t := xt)), h, and_self, if_true, run_size k1, k2, j1]
theorem ok_fieldAddr {xt : TypeId} {x : Operand} {f : Nat} {fs : List (TypeId × Nat)} {id o : Nat} {ft : TypeId} {o' n b : Nat} {z} [TyF P xt fs] (hx : ρ x = some (.pointer (some ⟨id, o, none⟩))) (hf : fs[f]? = some (ft, o')) (ht : TyI P ft n b z) (hn : Nat.beq n 0 = false) :
    OpOK P ⟨d, .fieldAddr xt x f, t, pp, af, g⟩ ρ m (.pointer (some ⟨id, o + o', none⟩)) m := .val fun _ _ μ A w _ _ ho => by
  obtain ⟨L, hL, e⟩ := (ho x _ (by simp [Op.operands]) hx).ptr'
  obtain ⟨gs, fd, k0, k1, k2⟩ := field_get (P := P) (t := xt) hf
  cases k2
  obtain ⟨ti, _, j1, j2, _⟩ := TyI.ex (P := P) (t := fd.type)
  have hn0 : ti.size ≠ 0 := by rw [j2]; intro h; rw [h] at hn; cases hn
  refine ⟨.pointer (some ⟨L.b, L.o + (o + fd.offset), none⟩), ?_, .ptr hL⟩
  have hplace : (fieldPlace ⟨L.b, L.o + o, none⟩ fd).run P w = .ok ⟨L.b, L.o + (o + fd.offset), none⟩ w := by
    simp only [fieldPlace, Sem.run_bind, run_size j1, Result.andThen_ok, hn0, if_false, Sem.run_pure, add_off]
    rw [Nat.add_assoc]
  simp [execOp, e, Instr.fieldAt, run_und k0, k1, Instr.sureAddr, hplace]
/-- An element's address, of a slice. -/
theorem ok_indexAddr_slice {xt : TypeId} {x y : Operand} {id o n c : Nat} {e : TypeId} {k : IntKind} {i : Int} {sz b z} [Ty P xt (.slice e)] [TyI P e sz b z] (hx : ρ x = some (.slice (some ⟨id, o, none⟩) n c)) (hy : ρ y = some (.int k i)) (h : 0 ≤ i ∧ i < n) :
    OpOK P ⟨d, .indexAddr xt x y, t, pp, af, g⟩ ρ m (.pointer (some ⟨id, o + i.toNat * sz, none⟩)) m := .val fun _ _ μ A w _ _ ho => by
  have e2 := (ho y _ (by simp [Op.operands]) hy).int'
  obtain ⟨ti, _, k1, k2, _⟩ := TyI.ex (P := P) (t := e)
  have hv := ho x _ (by simp [Op.operands]) hx
  generalize hX : A.eval x = X at hv
  cases hv with
  | slc hL hc hb ho hr =>
    rename_i cap b off L
    have hn : n ≠ 0 := by omega
    have := hb (.inl hn); subst this
    have := ho hn; subst this
    refine ⟨_, ?_, .ptr hL⟩
    simp only [execOp, hX, e2, Instr.indexAt, asIntOf, Sem.run_bind, Sem.run_pure, Result.andThen_ok, run_und (Ty.eq (P := P) (t := xt)), h, and_self, if_true, run_size k1, k2, add_off]
    rw [Nat.add_assoc]
  | slcNil => omega
/-- An element's address, of an array. -/
theorem ok_indexAddr_array {xt : TypeId} {x y : Operand} {id o n : Nat} {e : TypeId} {k : IntKind} {i : Int} {sz b z} [Ty P xt (.array n e)] [TyI P e sz b z] (hx : ρ x = some (.pointer (some ⟨id, o, none⟩))) (hy : ρ y = some (.int k i)) (h : 0 ≤ i ∧ i < n) :
    OpOK P ⟨d, .indexAddr xt x y, t, pp, af, g⟩ ρ m (.pointer (some ⟨id, o + i.toNat * sz, none⟩)) m := .val fun _ _ μ A w _ _ ho => by
  have e2 := (ho y _ (by simp [Op.operands]) hy).int'
  obtain ⟨ti, _, k1, k2, _⟩ := TyI.ex (P := P) (t := e)
  obtain ⟨L, hL, hX⟩ := (ho x _ (by simp [Op.operands]) hx).ptr'
  refine ⟨_, ?_, .ptr hL⟩
  simp only [execOp, hX, e2, Instr.indexAt, Instr.sureAddr, asIntOf, Sem.run_bind, Sem.run_pure, Result.andThen_ok, run_und (Ty.eq (P := P) (t := xt)), h, and_self, if_true, run_size k1, k2, add_off]
  rw [Nat.add_assoc]
theorem ok_nilCheck {x : Operand} {ad : Addr} (hx : ρ x = some (.pointer (some ad))) : OpOK P ⟨d, .nilCheck x, t, pp, af, g⟩ ρ m (.pointer (some ad)) m := .val fun _ _ μ A w _ _ ho => by
  have h := ho x _ (by simp [Op.operands]) hx
  generalize hX : A.eval x = X at h
  have h' := h
  cases h with
  | ptr hL => exact ⟨_, by simp [execOp, hX], h'⟩
theorem ok_nilCheck_func {x : Operand} {f a b} (hx : ρ x = some (.func (.func f) a b)) : OpOK P ⟨d, .nilCheck x, t, pp, af, g⟩ ρ m (.func (.func f) a b) m := .val fun _ _ μ A w _ _ ho => by
  have h := ho x _ (by simp [Op.operands]) hx
  generalize hX : A.eval x = X at h
  have h' := h
  cases h with
  | func _ _ _ _ => exact ⟨_, by simp [execOp, hX], h'⟩
theorem ok_min {x y : Operand} {k k' a b t1 t2 ct} (hx : ρ x = some (.int k a)) (hy : ρ y = some (.int k' b)) : OpOK P ⟨d, .call ⟨.builtin .min, #[x, y], #[t1, t2]⟩, ct, pp, af, g⟩ ρ m (.int k (min a b)) m := .val fun _ _ μ A w _ _ ho => by
  have h1 := (ho x _ (by simp [Op.operands, Call.operands]) hx).int'
  have h2 := (ho y _ (by simp [Op.operands, Call.operands]) hy).int'
  refine ⟨.int k (min a b), ?_, .int _ _⟩
  have : (if b < a then b else a) = min a b := by split <;> omega
  simp [execOp, resolve, invoke, builtin, Builtin.min_, Builtin.min2, h1, h2, this]
theorem ok_max {x y : Operand} {k k' a b t1 t2 ct} (hx : ρ x = some (.int k a)) (hy : ρ y = some (.int k' b)) : OpOK P ⟨d, .call ⟨.builtin .max, #[x, y], #[t1, t2]⟩, ct, pp, af, g⟩ ρ m (.int k (max a b)) m := .val fun _ _ μ A w _ _ ho => by
  have h1 := (ho x _ (by simp [Op.operands, Call.operands]) hx).int'
  have h2 := (ho y _ (by simp [Op.operands, Call.operands]) hy).int'
  refine ⟨.int k (max a b), ?_, .int _ _⟩
  have : (if a < b then b else a) = max a b := by split <;> omega
  simp [execOp, resolve, invoke, builtin, Builtin.max_, Builtin.max2, h1, h2, this]
/-! ### loads and stores -/
theorem ok_load {t' : TypeId} {x : Operand} {id o : Nat} {B : Blk} {v : Value} {D} [Ty P t' D] (hx : ρ x = some (.pointer (some ⟨id, o, none⟩))) (hB : live m id = some B) (hD : aggD D = false) (hv : TakeR B.cells o 1 [v]) :
    OpOK P ⟨d, .load t' x, t, pp, af, g⟩ ρ m v m := .val fun _ _ μ A w _ hm ho => by
  obtain ⟨L, hL, hX⟩ := (ho x _ (by simp [Op.operands]) hx).ptr'
  have h0 := (hv.spec).2 0 (by omega)
  obtain ⟨y, h1, h2⟩ := hm.cells hB hL o v (by simpa using h0)
  exact ⟨y, by simp [execOp, hX, Instr.loadAt, Instr.sureAddr, loadVar, run_isAgg (Ty.eq (P := P) (t := t')), hD, h1], h2⟩
theorem ok_load_at {t' : TypeId} {x : Operand} {id o : Nat} {B : Blk} {v : Value} {D} [Ty P t' D] (hx : ρ x = some (.pointer (some ⟨id, o, none⟩))) (hB : live m id = some B) (hD : aggD D = false) (hv : B.cells[o]? = some v) :
    OpOK P ⟨d, .load t' x, t, pp, af, g⟩ ρ m v m := .val fun _ _ μ A w _ hm ho => by
  obtain ⟨L, hL, hX⟩ := (ho x _ (by simp [Op.operands]) hx).ptr'
  obtain ⟨y, h1, h2⟩ := hm.cells hB hL o v hv
  exact ⟨y, by simp [execOp, hX, Instr.loadAt, Instr.sureAddr, loadVar, run_isAgg (Ty.eq (P := P) (t := t')), hD, h1], h2⟩
/-- An element of a row that is a list's. -/
theorem ok_load_map {t' : TypeId} {α : Type} [Inhabited α] {f : α → Value} {l : List α} {r : Bool} {z : Nat} {x : Operand} {id o j : Nat} {D} [Ty P t' D] (hx : ρ x = some (.pointer (some ⟨id, o, none⟩))) (hB : live m id = some ⟨l.map f, r, z⟩) (hD : aggD D = false) (hj : o = j) (hi : j < l.length) :
    OpOK P ⟨d, .load t' x, t, pp, af, g⟩ ρ m (f (l.getD j default)) m := by
  subst hj
  exact ok_load_at hx hB hD (by rw [List.getElem?_map, List.getElem?_eq_getElem hi, List.getD_eq_getElem?_getD, List.getElem?_eq_getElem hi]; rfl)
theorem ok_load_ints {t' : TypeId} {k : IntKind} {l : List Int} {r : Bool} {z : Nat} {x : Operand} {id o j : Nat} {D} [Ty P t' D] (hx : ρ x = some (.pointer (some ⟨id, o, none⟩))) (hB : live m id = some ⟨l.map (Value.int k), r, z⟩) (hD : aggD D = false) (hj : o = j) (hi : j < l.length) :
    OpOK P ⟨d, .load t' x, t, pp, af, g⟩ ρ m (.int k (l.getD j 0)) m := ok_load_map hx hB hD hj hi
theorem ok_loadN {t' : TypeId} {x : Operand} {id o n b : Nat} {z} {B : Blk} {xs : List Value} {D} [Ty P t' D] [TyI P t' n b z] (hx : ρ x = some (.pointer (some ⟨id, o, none⟩))) (hB : live m id = some B) (hD : aggD D = true) (hv : TakeR B.cells o n xs) :
    OpOK P ⟨d, .load t' x, t, pp, af, g⟩ ρ m (.agg xs.toArray) m := .val fun _ _ μ A w _ hm ho => by
  obtain ⟨L, hL, hX⟩ := (ho x _ (by simp [Op.operands]) hx).ptr'
  obtain ⟨ti, _, k1, k2, _⟩ := TyI.ex (P := P) (t := t')
  obtain ⟨ys, h1, h2, h3⟩ := hm.loadN (P := P) hB hL hv
  have hl := hv.spec.1
  refine ⟨.agg ys.toArray, ?_, .agg (by simp [h2, hl]) fun i u v hu hv => h3 i u v (by simpa using hu) (by simpa using hv)⟩
  simp [execOp, hX, Instr.loadAt, Instr.sureAddr, loadVar, run_isAgg (Ty.eq (P := P) (t := t')), hD, run_size k1, k2, h1]
theorem cells_oneCell {μ : Mu} {v y : Value} (h : VR μ v y) (h1 : v.cells.toList.all (·.oneCell') = true) : ∀ u ∈ y.cells.toList, u.oneCell' = true := by
  obtain ⟨hs, hr⟩ := h.cells
  intro u hu
  obtain ⟨i, hi⟩ := List.mem_iff_getElem?.1 hu
  rw [Array.getElem?_toList] at hi
  have hlt : i < v.cells.size := by
    rcases Nat.lt_or_ge i v.cells.size with h' | h'
    · exact h'
    · rw [Array.getElem?_eq_none (by omega)] at hi; cases hi
  have hx : v.cells[i]? = some v.cells[i] := Array.getElem?_eq_getElem hlt
  rw [(hr i _ u hx hi).oneCell]
  exact List.all_eq_true.1 h1 _ (by simp)
theorem ok_storeN {t' : TypeId} {x y : Operand} {id o n b : Nat} {z} {bc : List Value} {z0 : Nat} {v : Value} {vs cs' : List Value} {m' : Mem} [TyI P t' n b z] (hx : ρ x = some (.pointer (some ⟨id, o, none⟩))) (hy : ρ y = some v) (hvs : ListR v.cells.toList vs) (hB : live m id = some ⟨bc, true, z0⟩)
    (hn : Nat.beq vs.length n = true) (h0 : Nat.blt 0 n = true) (h1 : vs.all (·.oneCell') = true) (hs : SpliceR bc o vs cs') (hm' : SetR (some ⟨cs', true, z0⟩) m id m') :
    OpOK P ⟨d, .store t' x y, t, pp, af, g⟩ ρ m undef m' := .skip fun F w0 μ A w hd hm ho => by
  obtain ⟨L, hL, hX⟩ := (ho x _ (by simp [Op.operands]) hx).ptr'
  have hv := ho y _ (by simp [Op.operands]) hy
  obtain ⟨ti, _, k1, k2, _⟩ := TyI.ex (P := P) (t := t')
  obtain ⟨c1, c2⟩ := hv.cells
  have hvs := hvs.spec
  have hm' := hm'.spec
  subst hvs hm'
  have hn := Nat.eq_of_beq_eq_true hn
  have h0 := Nat.blt_eq.mp h0
  obtain ⟨w', h3, h4⟩ := hm.storeN (P := P) hB rfl hL hs (by omega) (ys := (A.eval y).cells.toList) (by simpa using c1) (fun j u v hu hv => c2 j u v (by simpa using hu) (by simpa using hv)) (cells_oneCell hv h1)
  refine ⟨w', ?_, by simpa using hd, h4⟩
  have hne : ¬ (A.eval y).cells.size ≠ ti.size := by rw [k2, ← c1, ← hn]; simp
  simp only [execOp, hX, Instr.storeAt, Instr.sureAddr, storeVar, Sem.run_bind, Sem.run_pure, Result.andThen_ok, run_size k1, hne, if_false, h3]
/-! ### new blocks -/
theorem run_zero {P : Program} {t i v} (h : P.info? t = some i) (hv : i.zero = some v) (w : World) : (zeroValue t).run P w = .ok v w := by simp [zeroValue, run_info h, hv]
theorem plain_cells {μ : Mu} {zs : List Value} (hp : zs.all (plain 2) = true) : ∀ (j : Nat) x, zs[j]? = some x → ∃ y, zs.toArray[j]? = some y ∧ VR μ x y := fun j x hx =>
  ⟨x, by simpa using hx, plain_refl μ 2 x (List.all_eq_true.1 hp x (List.mem_of_getElem? hx))⟩
theorem ok_alloc {e : TypeId} {n b : Nat} {zs : List Value} {m' : Mem} {k : Nat} [TyI P e n b zs] (hp : zs.all (plain 2) = true) (hm' : AppR (some ⟨zs, true, 1⟩) m m' k) : OpOK P ⟨d, .alloc e, t, pp, af, g⟩ ρ m (.pointer (some ⟨k, 0, none⟩)) m' := .gen fun F w0 μ A w hd hm ho => by
  obtain ⟨rfl, rfl⟩ := hm'.spec
  obtain ⟨ti, v, k1, k2, k3, k4, k5⟩ := TyI.ex (P := P) (t := e)
  refine ⟨.pointer (some ⟨w.heap.size, 0, none⟩), w.alloc (.cells v.cells e (0, 0)), _, ?_, Mu.set_ext, by simpa using Mu.set_dom hd, hm.alloc (e := e) (z := 1) (lo := 0) (hi := 0) (cs := zs) (c := v.cells) hd (by rw [k5]; exact plain_cells hp) (fun j _ => by omega), .ptr (L := ⟨w.heap.size, 0, v.cells.size, 1, true⟩) Mu.set_same⟩
  simp [execOp, Instr.alloc, run_zero k1 k4, newVar, newRow]
theorem ok_box {e : TypeId} {x : Operand} {v : Value} {cs : List Value} {m' : Mem} {k : Nat} (hx : ρ x = some v) (hc : ListR v.cells.toList cs) (hm' : AppR (some ⟨cs, true, 1⟩) m m' k) : OpOK P ⟨d, .box e x, t, pp, af, g⟩ ρ m (.pointer (some ⟨k, 0, none⟩)) m' := .gen fun F w0 μ A w hd hm ho => by
  obtain ⟨rfl, rfl⟩ := hm'.spec
  have hc := hc.spec
  have hv := ho x _ (by simp [Op.operands]) hx
  obtain ⟨c1, c2⟩ := hv.cells
  subst hc
  refine ⟨.pointer (some ⟨w.heap.size, 0, none⟩), w.alloc (.cells (A.eval x).cells e (0, 0)), _, ?_, Mu.set_ext, by simpa using Mu.set_dom hd, hm.alloc (e := e) (z := 1) (lo := 0) (hi := 0) (cs := v.cells.toList) (c := (A.eval x).cells) hd (fun j u hu => ?_) (fun j _ => by omega), .ptr (L := ⟨w.heap.size, 0, (A.eval x).cells.size, 1, true⟩) Mu.set_same⟩
  · simp [execOp, Instr.box, newVar, newRow]
  · rw [Array.getElem?_toList] at hu
    have hlt : j < (A.eval x).cells.size := by
      rcases Nat.lt_or_ge j v.cells.size with h' | h'
      · omega
      · rw [Array.getElem?_eq_none h'] at hu; cases hu
    exact ⟨_, Array.getElem?_eq_getElem hlt, c2 j u _ hu (Array.getElem?_eq_getElem hlt)⟩
end
end Go.Proofs.Ytmmaolnjjjdecaa.Av
