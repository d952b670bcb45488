/- Walking in numbers of one's own: what the operations do that leave memory alone. -/
import Derived.Test.YtmmaolnjjjdecaaV2
import Derived.Laws.Append
import Derived.Laws.IdiomCopy
set_option linter.unusedVariables false
set_option linter.unusedSimpArgs false
namespace Go.Proofs.Ytmmaolnjjjdecaa.Av
class Ty (P : Program) (t : TypeId) (d : outParam TypeDesc) : Prop where
  eq : P.underlying t = some d
class TyF (P : Program) (t : TypeId) (fs : outParam (List (TypeId × Nat))) : Prop where
  eq : ∃ gs : Array Field, P.underlying t = some (.struct gs) ∧ gs.toList.map (fun f => (f.type, f.offset)) = fs
class TyI (P : Program) (t : TypeId) (n b : outParam Nat) (z : outParam (List Value)) : Prop where
  eq : (P.info? t).map (fun i => (i.size, i.bytes, i.zero.map Value.cells)) = some (n, b, some z.toArray)
theorem TyI.ex {P t n b z} [h : TyI P t n b z] : ∃ i v, P.info? t = some i ∧ i.size = n ∧ i.bytes = b ∧ i.zero = some v ∧ v.cells = z.toArray := by
  have h := h.eq
  cases hi : P.info? t with
  | none => rw [hi] at h; cases h
  | some i =>
    rw [hi] at h
    simp only [Option.map_some, Option.some.injEq, Prod.mk.injEq] at h
    obtain ⟨h1, h2, h3⟩ := h
    cases hz : i.zero with
    | none => rw [hz] at h3; cases h3
    | some v => rw [hz] at h3; simp at h3; exact ⟨i, v, rfl, h1, h2, hz, h3⟩
def aggD : TypeDesc → Bool
  | .struct _ => true
  | .array .. => true
  | _ => false
theorem wrap_id {k : IntKind} {n : Int} (h1 : k.min ≤ n) (h2 : n ≤ k.max) : k.wrap n = n := by
  cases k <;> simp [IntKind.min, IntKind.max, IntKind.wrap, IntKind.signed, IntKind.bits] at * <;> omega
theorem wrap64 {n : Int} (h : -9223372036854775808 ≤ n ∧ n ≤ 9223372036854775807) : IntKind.i64.wrap n = n := wrap_id (by simp [IntKind.min, IntKind.signed, IntKind.bits]; omega) (by simp [IntKind.max, IntKind.signed, IntKind.bits]; omega)
theorem run_und {P : Program} {t d} (h : P.underlying t = some d) (w : World) : (underlying t).run P w = .ok d w := by
  simp [underlying, h]
theorem run_info {P : Program} {t i} (h : P.info? t = some i) (w : World) : (typeInfo t).run P w = .ok i w := by
  simp [typeInfo, h]
theorem run_size {P : Program} {t i} (h : P.info? t = some i) (w : World) : (sizeOf t).run P w = .ok i.size w := by
  simp [sizeOf, run_info h]
theorem run_isAgg {P : Program} {t d} (h : P.underlying t = some d) (w : World) : (isAgg t).run P w = .ok (aggD d) w := by
  simp only [isAgg, Sem.run_bind, run_und h, Result.andThen_ok]
  cases d <;> rfl
section
variable {P : Program} {ρ : Operand → Option Value} {m : Mem} {d : Option Tmp} {t : TypeId} {pp : String} {af : Array Edge} {g : Option (Nat × Bool)}
theorem OpOK.val {o : Oper} {v : Value} (h : ∀ F w0 μ (a : Act) w, Dom μ m.length → RepM F w0 μ m w → (∀ x u, x ∈ o.op.operands → ρ x = some u → VR μ u (a.eval x)) → ∃ y, (execOp a.eval o).run P w = .ok (.value y) w ∧ VR μ v y) : OpOK P o ρ m v m := by
  constructor
  intro F w0 μ a w K Q hd hm ho hk
  obtain ⟨y, h1, h2⟩ := h F w0 μ a w hd hm ho
  unfold Oper.wp
  rw [h1]
  exact hk μ y w (Ext.refl _ _) hd hm h2
theorem OpOK.gen {o : Oper} {v : Value} {m' : Mem} (h : ∀ F w0 μ (a : Act) w, Dom μ m.length → RepM F w0 μ m w → (∀ x u, x ∈ o.op.operands → ρ x = some u → VR μ u (a.eval x)) →
    ∃ y w' μ', (execOp a.eval o).run P w = .ok (.value y) w' ∧ Ext m.length μ μ' ∧ Dom μ' m'.length ∧ RepM F w0 μ' m' w' ∧ VR μ' v y) : OpOK P o ρ m v m' := by
  constructor
  intro F w0 μ a w K Q hd hm ho hk
  obtain ⟨y, w', μ', h1, h2, h3, h4, h5⟩ := h F w0 μ a w hd hm ho
  unfold Oper.wp
  rw [h1]
  exact hk μ' y w' h2 h3 h4 h5
theorem OpOK.skip {o : Oper} {m' : Mem} (h : ∀ F w0 μ (a : Act) w, Dom μ m.length → RepM F w0 μ m w → (∀ x u, x ∈ o.op.operands → ρ x = some u → VR μ u (a.eval x)) →
    ∃ w', (execOp a.eval o).run P w = .ok .skip w' ∧ Dom μ m'.length ∧ RepM F w0 μ m' w') : OpOK P o ρ m undef m' := by
  constructor
  intro F w0 μ a w K Q hd hm ho hk
  obtain ⟨w', h1, h3, h4⟩ := h F w0 μ a w hd hm ho
  unfold Oper.wp
  rw [h1]
  exact hk μ undef w' (Ext.refl _ _) h3 h4 (vr_undef _)
theorem ok_move {x v} (hx : ρ x = some v) : OpOK P ⟨d, .move x, t, pp, af, g⟩ ρ m v m := .val fun _ _ _ a _ _ _ ho => ⟨a.eval x, rfl, ho x v (by simp [Op.operands]) hx⟩
theorem ok_assign {x v} (hx : ρ x = some v) : OpOK P ⟨d, .assign x, t, pp, af, g⟩ ρ m v m := .val fun _ _ _ a _ _ _ ho => ⟨a.eval x, rfl, ho x v (by simp [Op.operands]) hx⟩
theorem ok_pick {c x y b vx vy} (hc : ρ c = some (.bool b)) (hx : ρ x = some vx) (hy : ρ y = some vy) : OpOK P ⟨d, .pick c x y, t, pp, af, g⟩ ρ m (cond b vx vy) m := .val fun _ _ _ a w _ _ ho => by
  have hb := (ho c _ (by simp [Op.operands]) hc).bool'
  refine ⟨cond b (a.eval x) (a.eval y), ?_, ?_⟩
  · simp only [execOp, hb, asBool, Sem.run_bind, Sem.run_pure, Result.andThen_ok]
    cases b <;> rfl
  · cases b
    · exact ho y _ (by simp [Op.operands]) hy
    · exact ho x _ (by simp [Op.operands]) hx
theorem ok_pick1 {c x y vx} (hc : ρ c = some (.bool true)) (hx : ρ x = some vx) : OpOK P ⟨d, .pick c x y, t, pp, af, g⟩ ρ m vx m := .val fun _ _ _ a w _ _ ho => by
  have hb := (ho c _ (by simp [Op.operands]) hc).bool'
  refine ⟨a.eval x, ?_, ho x _ (by simp [Op.operands]) hx⟩
  simp only [execOp, hb, asBool, Sem.run_bind, Sem.run_pure, Result.andThen_ok]; rfl
theorem ok_pick0 {c x y vy} (hc : ρ c = some (.bool false)) (hy : ρ y = some vy) : OpOK P ⟨d, .pick c x y, t, pp, af, g⟩ ρ m vy m := .val fun _ _ _ a w _ _ ho => by
  have hb := (ho c _ (by simp [Op.operands]) hc).bool'
  refine ⟨a.eval y, ?_, ho y _ (by simp [Op.operands]) hy⟩
  simp only [execOp, hb, asBool, Sem.run_bind, Sem.run_pure, Result.andThen_ok]; rfl
/-! ### integers -/
theorem ok_bin {op xt x y yt k a b v} (hp : plain 4 v = true) (hx : ρ x = some (.int k a)) (hy : ρ y = some (.int k b)) (h : ∀ w, (binOp op xt (.int k a) (.int k b)).run P w = .ok v w) : OpOK P ⟨d, .binOp op xt x y yt, t, pp, af, g⟩ ρ m v m := .val fun _ _ _ A w _ _ ho => by
  have h1 := (ho x _ (by simp [Op.operands]) hx).int'
  have h2 := (ho y _ (by simp [Op.operands]) hy).int'
  refine ⟨v, ?_, plain_refl _ 4 v hp⟩
  simp only [execOp, h1, h2, eqGuard]
  split <;> simp [h]
theorem ok_add {xt x y yt k a b} (hx : ρ x = some (.int k a)) (hy : ρ y = some (.int k b)) : OpOK P ⟨d, .binOp .add xt x y yt, t, pp, af, g⟩ ρ m (.int k (k.wrap (a + b))) m := ok_bin rfl hx hy fun w => by simp [binOp, Op.intArith]
theorem ok_sub {xt x y yt k a b} (hx : ρ x = some (.int k a)) (hy : ρ y = some (.int k b)) : OpOK P ⟨d, .binOp .sub xt x y yt, t, pp, af, g⟩ ρ m (.int k (k.wrap (a - b))) m := ok_bin rfl hx hy fun w => by simp [binOp, Op.intArith]
theorem ok_mul {xt x y yt k a b} (hx : ρ x = some (.int k a)) (hy : ρ y = some (.int k b)) : OpOK P ⟨d, .binOp .mul xt x y yt, t, pp, af, g⟩ ρ m (.int k (k.wrap (a * b))) m := ok_bin rfl hx hy fun w => by simp [binOp, Op.intArith]
theorem ok_add64 {xt x y yt a b} (hx : ρ x = some (.int .i64 a)) (hy : ρ y = some (.int .i64 b)) (h : -9223372036854775808 ≤ a + b ∧ a + b ≤ 9223372036854775807) : OpOK P ⟨d, .binOp .add xt x y yt, t, pp, af, g⟩ ρ m (.int .i64 (a + b)) m := by
  have := ok_add (P := P) (m := m) (d := d) (t := t) (pp := pp) (af := af) (g := g) (xt := xt) (yt := yt) hx hy; rwa [wrap64 h] at this
theorem ok_sub64 {xt x y yt a b} (hx : ρ x = some (.int .i64 a)) (hy : ρ y = some (.int .i64 b)) (h : -9223372036854775808 ≤ a - b ∧ a - b ≤ 9223372036854775807) : OpOK P ⟨d, .binOp .sub xt x y yt, t, pp, af, g⟩ ρ m (.int .i64 (a - b)) m := by
  have := ok_sub (P := P) (m := m) (d := d) (t := t) (pp := pp) (af := af) (g := g) (xt := xt) (yt := yt) hx hy; rwa [wrap64 h] at this
theorem ok_mul64 {xt x y yt a b} (hx : ρ x = some (.int .i64 a)) (hy : ρ y = some (.int .i64 b)) (h : -9223372036854775808 ≤ a * b ∧ a * b ≤ 9223372036854775807) : OpOK P ⟨d, .binOp .mul xt x y yt, t, pp, af, g⟩ ρ m (.int .i64 (a * b)) m := by
  have := ok_mul (P := P) (m := m) (d := d) (t := t) (pp := pp) (af := af) (g := g) (xt := xt) (yt := yt) hx hy; rwa [wrap64 h] at this
theorem ok_lss {xt x y yt k a b} (hx : ρ x = some (.int k a)) (hy : ρ y = some (.int k b)) : OpOK P ⟨d, .binOp .lss xt x y yt, t, pp, af, g⟩ ρ m (.bool (decide (a < b))) m := ok_bin rfl hx hy fun w => by simp [binOp, Op.intCmp]
theorem ok_leq {xt x y yt k a b} (hx : ρ x = some (.int k a)) (hy : ρ y = some (.int k b)) : OpOK P ⟨d, .binOp .leq xt x y yt, t, pp, af, g⟩ ρ m (.bool (decide (a ≤ b))) m := ok_bin rfl hx hy fun w => by simp [binOp, Op.intCmp]
theorem ok_gtr {xt x y yt k a b} (hx : ρ x = some (.int k a)) (hy : ρ y = some (.int k b)) : OpOK P ⟨d, .binOp .gtr xt x y yt, t, pp, af, g⟩ ρ m (.bool (decide (b < a))) m := ok_bin rfl hx hy fun w => by simp [binOp, Op.intCmp]
theorem ok_geq {xt x y yt k a b} (hx : ρ x = some (.int k a)) (hy : ρ y = some (.int k b)) : OpOK P ⟨d, .binOp .geq xt x y yt, t, pp, af, g⟩ ρ m (.bool (decide (b ≤ a))) m := ok_bin rfl hx hy fun w => by simp [binOp, Op.intCmp]
theorem ok_eql {xt x y yt k a b} (hx : ρ x = some (.int k a)) (hy : ρ y = some (.int k b)) : OpOK P ⟨d, .binOp .eql xt x y yt, t, pp, af, g⟩ ρ m (.bool (decide (a = b))) m := ok_bin rfl hx hy fun w => by simp [binOp, Op.intCmp]; rfl
theorem ok_neq {xt x y yt k a b} (hx : ρ x = some (.int k a)) (hy : ρ y = some (.int k b)) : OpOK P ⟨d, .binOp .neq xt x y yt, t, pp, af, g⟩ ρ m (.bool (decide (¬ a = b))) m := ok_bin rfl hx hy fun w => by
  simp [binOp, Op.intCmp]
  by_cases h : a = b <;> simp [h]
theorem ok_quo {xt x y yt k a b} (hx : ρ x = some (.int k a)) (hy : ρ y = some (.int k b)) (h0 : b ≠ 0) : OpOK P ⟨d, .binOp .quo xt x y yt, t, pp, af, g⟩ ρ m (.int k (k.wrap (a.tdiv b))) m := ok_bin rfl hx hy fun w => by simp [binOp, Op.intDiv, h0]
theorem ok_rem {xt x y yt k a b} (hx : ρ x = some (.int k a)) (hy : ρ y = some (.int k b)) (h0 : b ≠ 0) : OpOK P ⟨d, .binOp .rem xt x y yt, t, pp, af, g⟩ ρ m (.int k (a.tmod b)) m := ok_bin rfl hx hy fun w => by simp [binOp, Op.intDiv, h0]
theorem ok_quo64 {xt x y yt a b} (hx : ρ x = some (.int .i64 a)) (hy : ρ y = some (.int .i64 b)) (h : 0 ≤ a ∧ a ≤ 9223372036854775807 ∧ 0 < b) : OpOK P ⟨d, .binOp .quo xt x y yt, t, pp, af, g⟩ ρ m (.int .i64 (a / b)) m := by
  have := ok_quo (P := P) (m := m) (d := d) (t := t) (pp := pp) (af := af) (g := g) (xt := xt) (yt := yt) hx hy (by omega)
  rw [Int.tdiv_eq_ediv_of_nonneg h.1] at this
  rwa [wrap64] at this
  have h1 := Int.ediv_nonneg h.1 (Int.le_of_lt h.2.2)
  have h2 := Int.ediv_le_self b h.1
  omega
theorem ok_rem_pos {xt x y yt k a b} (hx : ρ x = some (.int k a)) (hy : ρ y = some (.int k b)) (h : 0 ≤ a ∧ 0 < b) : OpOK P ⟨d, .binOp .rem xt x y yt, t, pp, af, g⟩ ρ m (.int k (a % b)) m := by
  have := ok_rem (P := P) (m := m) (d := d) (t := t) (pp := pp) (af := af) (g := g) (xt := xt) (yt := yt) hx hy (by omega)
  rwa [Int.tmod_eq_emod_of_nonneg h.1] at this
def bitv (op : BinOp) (k : IntKind) (a b : Int) : Int :=
  match op with
  | .and => k.wrap (BitVec.ofInt k.bits a &&& BitVec.ofInt k.bits b).toNat
  | .or => k.wrap (BitVec.ofInt k.bits a ||| BitVec.ofInt k.bits b).toNat
  | .xor => k.wrap (BitVec.ofInt k.bits a ^^^ BitVec.ofInt k.bits b).toNat
  | _ => k.wrap (BitVec.ofInt k.bits a &&& ~~~ BitVec.ofInt k.bits b).toNat
theorem ok_and {xt x y yt k a b} (hx : ρ x = some (.int k a)) (hy : ρ y = some (.int k b)) : OpOK P ⟨d, .binOp .and xt x y yt, t, pp, af, g⟩ ρ m (.int k (bitv .and k a b)) m := ok_bin rfl hx hy fun w => by simp [binOp, Op.intBits, bitv]
theorem ok_or {xt x y yt k a b} (hx : ρ x = some (.int k a)) (hy : ρ y = some (.int k b)) : OpOK P ⟨d, .binOp .or xt x y yt, t, pp, af, g⟩ ρ m (.int k (bitv .or k a b)) m := ok_bin rfl hx hy fun w => by simp [binOp, Op.intBits, bitv]
theorem ok_xor {xt x y yt k a b} (hx : ρ x = some (.int k a)) (hy : ρ y = some (.int k b)) : OpOK P ⟨d, .binOp .xor xt x y yt, t, pp, af, g⟩ ρ m (.int k (bitv .xor k a b)) m := ok_bin rfl hx hy fun w => by simp [binOp, Op.intBits, bitv]
theorem ok_andNot {xt x y yt k a b} (hx : ρ x = some (.int k a)) (hy : ρ y = some (.int k b)) : OpOK P ⟨d, .binOp .andNot xt x y yt, t, pp, af, g⟩ ρ m (.int k (bitv .andNot k a b)) m := ok_bin rfl hx hy fun w => by simp [binOp, Op.intBits, bitv]
theorem ok_sh {op xt x y yt k k' a b v} (hp : plain 4 v = true) (hop : op = .shl ∨ op = .shr) (hx : ρ x = some (.int k a)) (hy : ρ y = some (.int k' b)) (h : ∀ w, (Op.shift op k a k' b).run P w = .ok v w) : OpOK P ⟨d, .binOp op xt x y yt, t, pp, af, g⟩ ρ m v m := .val fun _ _ _ A w _ _ ho => by
  have h1 := (ho x _ (by simp [Op.operands]) hx).int'
  have h2 := (ho y _ (by simp [Op.operands]) hy).int'
  refine ⟨v, ?_, plain_refl _ 4 v hp⟩
  rcases hop with rfl | rfl <;> simp [execOp, h1, h2, eqGuard, binOp, h]
theorem ok_shl {xt x y yt k k' a b} (hx : ρ x = some (.int k a)) (hy : ρ y = some (.int k' b)) (h : 0 ≤ b) : OpOK P ⟨d, .binOp .shl xt x y yt, t, pp, af, g⟩ ρ m (.int k (k.wrap (a * 2 ^ (min b.toNat k.bits)))) m :=
  ok_sh rfl (.inl rfl) hx hy fun w => by simp [Op.shift, show ¬ b < 0 by omega]
theorem ok_shr {xt x y yt k k' a b} (hx : ρ x = some (.int k a)) (hy : ρ y = some (.int k' b)) (h : 0 ≤ b) : OpOK P ⟨d, .binOp .shr xt x y yt, t, pp, af, g⟩ ρ m (.int k (a / 2 ^ (min b.toNat k.bits))) m :=
  ok_sh rfl (.inr rfl) hx hy fun w => by
    have : a.fdiv (2 ^ (min b.toNat k.bits)) = a / 2 ^ (min b.toNat k.bits) := Int.fdiv_eq_ediv_of_nonneg _ (Int.le_of_lt (Int.pow_pos (by omega)))
    simp [Op.shift, show ¬ b < 0 by omega, this]
theorem ok_not {tt x b} (hx : ρ x = some (.bool b)) : OpOK P ⟨d, .unOp .not tt x, t, pp, af, g⟩ ρ m (.bool (!b)) m := .val fun _ _ _ a w _ _ ho => by
  have hb := (ho x _ (by simp [Op.operands]) hx).bool'
  exact ⟨_, by simp [execOp, hb, Op.unary], .bool _⟩
theorem ok_not_dec {tt x} {p : Prop} [Decidable p] (hx : ρ x = some (.bool (decide p))) : OpOK P ⟨d, .unOp .not tt x, t, pp, af, g⟩ ρ m (.bool (decide (¬ p))) m := by
  have := ok_not (P := P) (m := m) (d := d) (t := t) (pp := pp) (af := af) (g := g) (tt := tt) hx
  have e : (!decide p) = decide (¬ p) := by by_cases h : p <;> simp [h]
  rwa [e] at this
theorem ok_neg {tt x k n} (hx : ρ x = some (.int k n)) : OpOK P ⟨d, .unOp .neg tt x, t, pp, af, g⟩ ρ m (.int k (k.wrap (0 - n))) m := .val fun _ _ _ a w _ _ ho => by
  have hb := (ho x _ (by simp [Op.operands]) hx).int'
  exact ⟨_, by simp [execOp, hb, Op.unary, Op.intArith], .int _ _⟩
theorem ok_compl {tt x k n} (hx : ρ x = some (.int k n)) : OpOK P ⟨d, .unOp .xor tt x, t, pp, af, g⟩ ρ m (.int k (bitv .xor k (if k.signed then -1 else k.max) n)) m := .val fun _ _ _ a w _ _ ho => by
  have hb := (ho x _ (by simp [Op.operands]) hx).int'
  exact ⟨_, by simp [execOp, hb, Op.unary, Op.intBits, bitv], .int _ _⟩
theorem ok_conv {src dst x k k' n d0} [Ty P src d0] [Ty P dst (.int k')] (hx : ρ x = some (.int k n)) : OpOK P ⟨d, .convert src dst x, t, pp, af, g⟩ ρ m (.int k' (k'.wrap n)) m := .val fun _ _ _ a w _ _ ho => by
  have hb := (ho x _ (by simp [Op.operands]) hx).int'
  exact ⟨_, by simp [execOp, hb, convert, run_und (Ty.eq (P := P) (t := src)), run_und (Ty.eq (P := P) (t := dst)), Conv.intToInt], .int _ _⟩
theorem ok_conv_in {src dst x k k' n d0} [Ty P src d0] [Ty P dst (.int k')] (hx : ρ x = some (.int k n)) (h1 : k'.min ≤ n) (h2 : n ≤ k'.max) : OpOK P ⟨d, .convert src dst x, t, pp, af, g⟩ ρ m (.int k' n) m := by
  have := ok_conv (P := P) (m := m) (d := d) (t := t) (pp := pp) (af := af) (g := g) (src := src) (dst := dst) (k' := k') hx
  rwa [wrap_id h1 h2] at this
theorem ok_conv_str {src dst x s d0} [Ty P src d0] [Ty P dst .string] (h : d0 = .string) (hx : ρ x = some (.string s)) : OpOK P ⟨d, .convert src dst x, t, pp, af, g⟩ ρ m (.string s) m := .val fun _ _ _ a w _ _ ho => by
  have hb := (ho x _ (by simp [Op.operands]) hx).string'
  subst h
  exact ⟨_, by simp [execOp, hb, convert, run_und (Ty.eq (P := P) (t := src)), run_und (Ty.eq (P := P) (t := dst))], .string _⟩
/-! ### strings -/
theorem bytes_toList (s : ByteArray) : s.toList = s.data.toList := by
  have loop : ∀ (n i : Nat) (r : List UInt8), s.size - i = n → i ≤ s.size → ByteArray.toList.loop s i r = r.reverse ++ s.data.toList.drop i := by
    intro n
    induction n with
    | zero =>
      intro i r hn hi
      have : i = s.size := by omega
      unfold ByteArray.toList.loop
      rw [if_neg (by omega), this, List.drop_eq_nil_of_le (by rw [Array.length_toList]; exact Nat.le_refl _), List.append_nil]
    | succ n ih =>
      intro i r hn hi
      unfold ByteArray.toList.loop
      rw [if_pos (by omega), ih (i + 1) _ (by omega) (by omega)]
      have hlt : i < s.data.toList.length := by rw [Array.length_toList]; show i < s.size; omega
      rw [List.drop_eq_getElem_cons hlt]
      have e : s.get! i = s.data.toList[i] := by
        show s.data[i]! = _
        rw [getElem!_pos s.data i (by simpa using hlt)]
        simp
      rw [e]
      simp
  have := loop s.size 0 [] rfl (Nat.zero_le _)
  show ByteArray.toList.loop s 0 [] = _
  rw [this]
  rfl
theorem bytes_eq (s u : ByteArray) : (s.toList == u.toList) = decide (s = u) := by
  rw [bytes_toList, bytes_toList]
  by_cases h : s = u
  · subst h; simp
  · rw [decide_eq_false h]
    apply beq_eq_false_iff_ne.2
    intro e
    apply h
    cases s; cases u
    congr
    exact Array.ext' e
theorem ok_str {op xt x y yt s u v} (hp : plain 4 v = true) (hx : ρ x = some (.string s)) (hy : ρ y = some (.string u)) (h : ∀ w, (binOp op xt (.string s) (.string u)).run P w = .ok v w) : OpOK P ⟨d, .binOp op xt x y yt, t, pp, af, g⟩ ρ m v m := .val fun _ _ _ A w _ _ ho => by
  have h1 := (ho x _ (by simp [Op.operands]) hx).string'
  have h2 := (ho y _ (by simp [Op.operands]) hy).string'
  refine ⟨v, ?_, plain_refl _ 4 v hp⟩
  simp only [execOp, h1, h2, eqGuard]
  split <;> simp [h]
theorem ok_str_eql {xt x y yt s u} (hx : ρ x = some (.string s)) (hy : ρ y = some (.string u)) : OpOK P ⟨d, .binOp .eql xt x y yt, t, pp, af, g⟩ ρ m (.bool (decide (s = u))) m := ok_str rfl hx hy fun w => by simp [binOp, Op.stringOp, ← bytes_eq]
theorem ok_str_neq {xt x y yt s u} (hx : ρ x = some (.string s)) (hy : ρ y = some (.string u)) : OpOK P ⟨d, .binOp .neq xt x y yt, t, pp, af, g⟩ ρ m (.bool (decide (¬ s = u))) m := ok_str rfl hx hy fun w => by
  simp only [binOp, Op.stringOp, bytes_eq]
  by_cases h : s = u <;> simp [h]
theorem ok_str_add {xt x y yt s u} (hx : ρ x = some (.string s)) (hy : ρ y = some (.string u)) (h : s.size + u.size ≤ 9223372036854775807) : OpOK P ⟨d, .binOp .add xt x y yt, t, pp, af, g⟩ ρ m (.string (s ++ u)) m := ok_str rfl hx hy fun w => by
  have : ¬ (IntKind.i64.max < (s.size : Int) + (u.size : Int)) := by simp [IntKind.max, IntKind.signed, IntKind.bits]; omega
  simp [binOp, Op.stringOp]
  omega
def byteAt (s : ByteArray) (i : Nat) : UInt8 := s.data.toList.getD i 0
theorem ok_str_index {xt x y s k i} [Ty P xt .string] (hx : ρ x = some (.string s)) (hy : ρ y = some (.int k i)) (h : 0 ≤ i ∧ i < s.size) : OpOK P ⟨d, .index xt x y, t, pp, af, g⟩ ρ m (.int .u8 (byteAt s i.toNat).toNat) m := .val fun _ _ _ A w _ _ ho => by
  have h1 := (ho x _ (by simp [Op.operands]) hx).string'
  have h2 := (ho y _ (by simp [Op.operands]) hy).int'
  have hlt : i.toNat < s.size := by omega
  have hlt' : i.toNat < s.data.size := hlt
  refine ⟨_, ?_, .int _ _⟩
  simp only [execOp, h1, h2, Instr.index, asIntOf, Sem.run_bind, Sem.run_pure, Result.andThen_ok, run_und (Ty.eq (P := P) (t := xt)), h.1, if_true]
  have : s[i.toNat]? = some (byteAt s i.toNat) := by
    rw [getElem?_pos s i.toNat hlt]
    have : byteAt s i.toNat = s.data[i.toNat] := by simp [byteAt, List.getD, getElem?_pos s.data i.toNat hlt']
    rw [this]
    rfl
  simp [this]
theorem ok_len_str {x s tt ct} [Ty P tt .string] (hx : ρ x = some (.string s)) : OpOK P ⟨d, .call ⟨.builtin .len, #[x], #[tt]⟩, ct, pp, af, g⟩ ρ m (.int .i64 (s.size : Int)) m := .val fun _ _ _ A w _ _ ho => by
  have h1 := (ho x _ (by simp [Op.operands, Call.operands]) hx).string'
  exact ⟨_, by simp [execOp, resolve, invoke, builtin, Builtin.len_, h1, run_und (Ty.eq (P := P) (t := tt)), goInt], .int _ _⟩
theorem ok_len_slice {x ad n c tt e ct} [Ty P tt (.slice e)] (hx : ρ x = some (.slice ad n c)) : OpOK P ⟨d, .call ⟨.builtin .len, #[x], #[tt]⟩, ct, pp, af, g⟩ ρ m (.int .i64 (n : Int)) m := .val fun _ _ _ A w _ _ ho => by
  have h1 := ho x _ (by simp [Op.operands, Call.operands]) hx
  generalize hy : A.eval x = y at h1
  cases h1 <;> exact ⟨_, by simp [execOp, resolve, invoke, builtin, Builtin.len_, run_und (Ty.eq (P := P) (t := tt)), goInt, *], .int _ _⟩
end
end Go.Proofs.Ytmmaolnjjjdecaa.Av
