/- Walking in numbers of one's own: arrays compared. -/
import Derived.Test.YtmmaolnjjjdecaaV18
import Derived.ChangeKeysEq
import Derived.LaidEql
set_option linter.unusedVariables false
set_option linter.unusedSimpArgs false
namespace Go.Proofs.Ytmmaolnjjjdecaa.Av
inductive IntsR (k : IntKind) : List Value → List Int → Prop
  | nil : IntsR k [] []
  | cons {a vs l} : IntsR k vs l → IntsR k (.int k a :: vs) (a :: l)
theorem IntsR.eq {k vs l} (h : IntsR k vs l) : vs = l.map (Value.int k) := by induction h <;> simp [*]
theorem ints_plain (k : IntKind) (l : List Int) : plain 2 (.agg ⟨l.map (Value.int k)⟩) = true := by
  simp only [plain]
  exact List.all_eq_true.2 fun v hv => by
    obtain ⟨a, _, rfl⟩ := List.mem_map.1 hv
    rfl
section
variable {P : Program} {ρ : Operand → Option Value} {m : Mem} {d : Option Tmp} {t : TypeId} {pp : String} {af : Array Edge} {g : Option (Nat × Bool)}
omit ρ m d t pp af g in
theorem run_part_int {e : TypeId} {D : TypeDesc} [Ty P e D] {k : IntKind} {l : List Int} {i : Nat} {c : Int} (hD : aggD D = false) (hi : l[i]? = some c) (w : World) : (part e ⟨l.map (Value.int k)⟩ i).run P w = .ok (.int k c) w := by
  have hlt := (List.getElem?_eq_some_iff.1 hi).1
  obtain ⟨y, h1, h2⟩ := run_part (P := P) (μ := fun _ => none) (e := e) (xs := ⟨l.map (Value.int k)⟩) (ys := ⟨l.map (Value.int k)⟩) (o := i) (v := .int k c) rfl (fun j u v hu hv => by
    rw [hu] at hv; cases hv
    have := List.mem_of_getElem? (by simpa using hu : (l.map (Value.int k))[j]? = some u)
    obtain ⟨a, _, rfl⟩ := List.mem_map.1 this
    exact .int _ _) (.one Ty.eq hD (by
      have h0 := TakeR.of (l := l.map (Value.int k)) (o := i) (n := 1) (by rw [List.length_map]; omega)
      have : ((l.map (Value.int k)).drop i).take 1 = [.int k c] := by
        have hl := List.getElem?_eq_getElem hlt
        rw [hi] at hl
        rw [← List.map_drop, ← List.map_take, List.drop_eq_getElem_cons hlt, ← Option.some.inj hl]
        rfl
      rwa [this] at h0)) w
  rw [h1, h2.int']
open Classical in
omit ρ m d t pp af g in
theorem run_eqItems {e : TypeId} {k k' : IntKind} [Ty P e (.int k')] {l l' : List Int} {n : Nat} (hl : l.length = n) (hl' : l'.length = n) (dd : Nat) (w : World) : ∀ (is : List Nat), (∀ i ∈ is, i < n) →
    (Op.eqItems (dd + 1) e 1 ⟨l.map (Value.int k)⟩ ⟨l'.map (Value.int k)⟩ is).run P w = .ok (decide (∀ i ∈ is, l[i]? = l'[i]?)) w
  | [], _ => by simp [Op.eqItems]
  | i :: is, h => by
    have hi := h i (List.mem_cons_self ..)
    have ha := List.getElem?_eq_getElem (show i < l.length by omega)
    have hb := List.getElem?_eq_getElem (show i < l'.length by omega)
    have e1 := run_part_int (P := P) (e := e) (k := k) rfl ha w
    have e2 := run_part_int (P := P) (e := e) (k := k) rfl hb w
    have e3 := (Eq0.int (P := P) (t := e) (k := k) (k' := k') (a := l[i]) (b := l'[i]) Ty.eq).run (μ := fun _ => none) (.int _ _) (.int _ _) dd w
    have ih : (Op.eqItems (dd + 1) e 1 ⟨l.map (Value.int k)⟩ ⟨l'.map (Value.int k)⟩ is).run P w = .ok (decide (∀ i ∈ is, l[i]? = l'[i]?)) w := run_eqItems (k' := k') hl hl' dd w is fun j hj => h j (List.mem_cons_of_mem _ hj)
    simp only [Op.eqItems, Nat.mul_one, Sem.run_bind, e1, e2, e3, Result.andThen_ok, Sem.run_ite]
    by_cases hp : l[i] = l'[i]
    · simp [hp, ih, ha, hb]
    · simp [hp, ha, hb]
theorem ok_arr {op : BinOp} {xt yt e : TypeId} {x y : Operand} {n b : Nat} {z : List Value} {k k' : IntKind} {xs ys : Array Value} {l l' : List Int} [Ty P xt (.array n e)] [Ty P e (.int k')] [TyI P e 1 b z] (hx : ρ x = some (.agg xs)) (hy : ρ y = some (.agg ys))
    (h1 : IntsR k xs.toList l) (h2 : IntsR k ys.toList l') (hl : l.length = n) (hl' : l'.length = n) (hg : P.eqGuardType P.depth xt = false) (hop : op = .eql ∨ op = .neq) :
    OpOK P ⟨d, .binOp op xt x y yt, t, pp, af, g⟩ ρ m (.bool (match op with | .eql => decide (l = l') | _ => decide (¬ l = l'))) m := .val fun _ _ μ A w _ _ ho => by
  have q1 := ho x _ (by simp [Op.operands]) hx
  have q2 := ho y _ (by simp [Op.operands]) hy
  have p1 : xs = ⟨l.map (Value.int k)⟩ := by cases xs; simpa using h1.eq
  have p2 : ys = ⟨l'.map (Value.int k)⟩ := by cases ys; simpa using h2.eq
  subst p1 p2
  have e1 := plain_eq 2 _ _ (ints_plain k l) q1
  have e2 := plain_eq 2 _ _ (ints_plain k l') q2
  obtain ⟨i, v, i1, i2, _⟩ := TyI.ex (P := P) (t := e)
  have hr := run_equalIn_array (P := P) (w := w) 9999 ⟨l.map (Value.int k)⟩ ⟨l'.map (Value.int k)⟩ (Ty.eq (P := P) (t := xt)) i1
  rw [cellsOf_ty (P := P) (t := e), run_eqItems (P := P) (e := e) (k := k) (k' := k') hl hl' 9998 w (List.range n) fun i hi => List.mem_range.1 hi] at hr
  have hiff : (∀ i ∈ List.range n, l[i]? = l'[i]?) ↔ l = l' := by
    constructor
    · intro h
      apply List.ext_getElem?
      intro i
      rcases Nat.lt_or_ge i n with hi | hi
      · exact h i (List.mem_range.2 hi)
      · rw [List.getElem?_eq_none (by omega), List.getElem?_eq_none (by omega)]
    · rintro rfl i _; rfl
  have hd : decide (∀ i ∈ List.range n, l[i]? = l'[i]?) = decide (l = l') := by rw [decide_eq_decide]; exact hiff
  rw [hd] at hr
  rcases hop with rfl | rfl
  · refine ⟨_, ?_, .bool _⟩
    simp only [execOp, e1, e2, Sem.run_bind, run_eqGuard_agg w .eql xt x y _ _ hg, Result.andThen_ok, run_eql_struct, hr, Sem.run_pure]
  · refine ⟨_, ?_, .bool _⟩
    simp only [execOp, e1, e2, Sem.run_bind, run_eqGuard_agg w .neq xt x y _ _ hg, Result.andThen_ok, run_neq_struct, hr, Sem.run_pure, decide_not]
/-- Pointers to two blocks of one's own. -/
theorem ok_ptr_ne {op : BinOp} {xt yt e : TypeId} {x y : Operand} {i j o o' n b : Nat} {z : List Value} {B B' : Blk} [Ty P xt (.pointer e)] [TyI P e n b z] (hx : ρ x = some (.pointer (some ⟨i, o, none⟩))) (hy : ρ y = some (.pointer (some ⟨j, o', none⟩)))
    (hB : live m i = some B) (hB' : live m j = some B') (hr : B.rw = true) (hr' : B'.rw = true) (hc : B.cells ≠ []) (hc' : B'.cells ≠ []) (hn : Nat.beq n 0 = false) (hij : Nat.beq i j = false) (hop : op = .eql ∨ op = .neq) :
    OpOK P ⟨d, .binOp op xt x y yt, t, pp, af, g⟩ ρ m (.bool (match op with | .eql => false | _ => true)) m := .val fun F w0 μ A w _ hm ho => by
  obtain ⟨L, k1, e1⟩ := (ho x _ (by simp [Op.operands]) hx).ptr'
  obtain ⟨L', k2, e2⟩ := (ho y _ (by simp [Op.operands]) hy).ptr'
  obtain ⟨L0, a1, a2, a3⟩ := hm.blk i B hB
  rw [k1] at a1; cases a1
  obtain ⟨L1, b1, b2, b3⟩ := hm.blk j B' hB'
  rw [k2] at b1; cases b1
  have hne : i ≠ j := fun h => by rw [h, Nat.beq_refl] at hij; cases hij
  have hbb := hm.excl i j B B' L L' hB hB' hne k1 k2 (a2.act hr (.inr hc)) (.inr hc')
  obtain ⟨c, ec, lo, hi, q1, _, ⟨rfl, rfl⟩, _⟩ := a2.row (a2.rw hr) (.inr hc)
  obtain ⟨c', ec', lo', hi', q1', _, ⟨rfl, rfl⟩, _⟩ := b2.row (b2.rw hr') (.inr hc')
  have hs := run_sameAddr_other (P := P) w (a := ⟨L.b, L.o + o, none⟩) (b := ⟨L'.b, L'.o + o', none⟩) (by intro h; injection h with h; exact hbb h) q1 q1'
  obtain ⟨inf, v, i1, i2, _⟩ := TyI.ex (P := P) (t := e)
  have hn0 : n ≠ 0 := fun h => by rw [h] at hn; cases hn
  have hq : ∀ dd, (Op.equalIn (dd + 1) xt (.pointer (some ⟨L.b, L.o + o, none⟩)) (.pointer (some ⟨L'.b, L'.o + o', none⟩))).run P w = .ok false w := fun dd => by
    simp only [Op.equalIn, Sem.run_bind, run_und (Ty.eq (P := P) (t := xt)), Result.andThen_ok, run_size i1, i2, ne_eq, hn0, not_false_eq_true, if_true, hs]
  have hq := hq 9999
  rcases hop with rfl | rfl
  · refine ⟨_, ?_, .bool _⟩
    simp only [execOp, e1, e2, eqGuard, binOp, Op.equal, Op.maxDepth]
    split <;> simp [hq]
  · refine ⟨_, ?_, .bool _⟩
    simp only [execOp, e1, e2, eqGuard, binOp, Op.equal, Op.maxDepth]
    split <;> simp [hq]
theorem ok_arr_eql {xt yt e : TypeId} {x y : Operand} {n b : Nat} {z : List Value} {k k' : IntKind} {xs ys : Array Value} {l l' : List Int} [Ty P xt (.array n e)] [Ty P e (.int k')] [TyI P e 1 b z] (hx : ρ x = some (.agg xs)) (hy : ρ y = some (.agg ys))
    (h1 : IntsR k xs.toList l) (h2 : IntsR k ys.toList l') (hl : l.length = n) (hl' : l'.length = n) (hg : P.eqGuardType P.depth xt = false) : OpOK P ⟨d, .binOp .eql xt x y yt, t, pp, af, g⟩ ρ m (.bool (decide (l = l'))) m := ok_arr hx hy h1 h2 hl hl' hg (.inl rfl)
theorem ok_arr_neq {xt yt e : TypeId} {x y : Operand} {n b : Nat} {z : List Value} {k k' : IntKind} {xs ys : Array Value} {l l' : List Int} [Ty P xt (.array n e)] [Ty P e (.int k')] [TyI P e 1 b z] (hx : ρ x = some (.agg xs)) (hy : ρ y = some (.agg ys))
    (h1 : IntsR k xs.toList l) (h2 : IntsR k ys.toList l') (hl : l.length = n) (hl' : l'.length = n) (hg : P.eqGuardType P.depth xt = false) : OpOK P ⟨d, .binOp .neq xt x y yt, t, pp, af, g⟩ ρ m (.bool (decide (¬ l = l'))) m := ok_arr hx hy h1 h2 hl hl' hg (.inr rfl)
end
end Go.Proofs.Ytmmaolnjjjdecaa.Av
