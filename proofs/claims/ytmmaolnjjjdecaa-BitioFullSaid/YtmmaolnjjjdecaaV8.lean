/- Walking in numbers of one's own: equality, function values. -/
import Derived.Test.YtmmaolnjjjdecaaV7
import Derived.Laws.StructEq
set_option linter.unusedVariables false
set_option linter.unusedSimpArgs false
namespace Go.Proofs.Ytmmaolnjjjdecaa.Av
/-- Two values of one cell are equal exactly if p. -/
inductive Eq0 (P : Program) (t : TypeId) : Value → Value → Prop → Prop
  | int {k k' a b} : P.underlying t = some (.int k') → Eq0 P t (.int k a) (.int k b) (a = b)
  | bool {a b} : P.underlying t = some .bool → Eq0 P t (.bool a) (.bool b) (a = b)
  | string {a b} : P.underlying t = some .string → Eq0 P t (.string a) (.string b) (a = b)
inductive EqFs (P : Program) (E : TypeId → Value → Value → Prop → Prop) (xs ys : List Value) : List (TypeId × Nat) → Prop → Prop
  | nil : EqFs P E xs ys [] True
  | cons {t o x y p l q} : PartR P t xs o x → PartR P t ys o y → E t x y p → EqFs P E xs ys l q → EqFs P E xs ys ((t, o) :: l) (p ∧ q)
/-- No field is blank; the struct is compared field by field. -/
class TyE (P : Program) (t : TypeId) : Prop where
  eq : ∃ gs : Array Field, P.underlying t = some (.struct gs) ∧ (gs.toList.all fun f => f.name != "_") = true ∧ P.stoodInHeld t = false ∧ P.eqGuardType P.depth t = false
def EqL (P : Program) : Nat → TypeId → Value → Value → Prop → Prop
  | 0, t, x, y, p => Eq0 P t x y p
  | n + 1, t, x, y, p => Eq0 P t x y p ∨ ∃ xs ys fs, x = .agg xs ∧ y = .agg ys ∧ TyE P t ∧ TyF P t fs ∧ EqFs P (EqL P n) xs.toList ys.toList fs p
open Classical in
theorem Eq0.run {P : Program} {t : TypeId} {x y : Value} {p : Prop} (h : Eq0 P t x y p) {μ : Mu} {X Y : Value} (hx : VR μ x X) (hy : VR μ y Y) (d : Nat) (w : World) : (Op.equalIn (d + 1) t X Y).run P w = .ok (decide p) w := by
  cases h with
  | int hu =>
    rename_i k k' a b
    rw [hx.int', hy.int', run_equalIn_int w d t _ _ _ _ hu]
    congr 1
    by_cases h : a = b <;> simp [h]
  | bool hu =>
    rename_i a b
    rw [hx.bool', hy.bool', run_equalIn_bool' w d t _ _ hu]
    congr 1
    cases a <;> cases b <;> simp
  | string hu =>
    rename_i a b
    rw [hx.string', hy.string', run_equalIn_string w d t _ _ hu]
    congr 1
    rw [bytes_eq]
    by_cases h : a = b <;> simp [h]
open Classical in
theorem EqFs.run {P : Program} {n d : Nat} (hE : ∀ {t x y p μ X Y}, EqL P n t x y p → VR μ x X → VR μ y Y → ∀ w, (Op.equalIn d t X Y).run P w = .ok (decide p) w) {μ : Mu} {xs ys Xs Ys : Array Value} (hxs : xs.size = Xs.size) (hx : ∀ (i : Nat) u v, xs[i]? = some u → Xs[i]? = some v → VR μ u v) (hys : ys.size = Ys.size) (hy : ∀ (i : Nat) u v, ys[i]? = some u → Ys[i]? = some v → VR μ u v) :
    ∀ (gs : List Field) {fs p}, gs.map (fun f => (f.type, f.offset)) = fs → (gs.all fun f => f.name != "_") = true → EqFs P (EqL P n) xs.toList ys.toList fs p → ∀ w, (Op.eqFields d Xs Ys gs).run P w = .ok (decide p) w
  | [], fs, p, hfs, _, h, w => by
    subst hfs
    cases h
    simp [Op.eqFields]
  | f :: gs, fs, p, hfs, hb, h, w => by
    subst hfs
    rw [List.map_cons] at h
    cases h with
    | cons h1 h2 h3 h4 =>
      rename_i x y p q
      simp only [List.all_cons, Bool.and_eq_true, bne_iff_ne] at hb
      obtain ⟨X, e1, e2⟩ := run_part hxs hx h1 w
      obtain ⟨Y, e3, e4⟩ := run_part hys hy h2 w
      have ih := EqFs.run hE hxs hx hys hy gs rfl hb.2 h4 w
      simp only [Op.eqFields, hb.1, ne_eq, not_false_eq_true, if_true, Sem.run_bind, e1, e3, Result.andThen_ok, hE h3 e2 e4, Sem.run_ite]
      by_cases hp : p
      · simp [hp, ih]
      · simp [hp]
open Classical in
theorem EqL.run {P : Program} : ∀ (n : Nat) {t : TypeId} {x y : Value} {p : Prop}, EqL P n t x y p → ∀ {μ : Mu} {X Y : Value}, VR μ x X → VR μ y Y → ∀ (d : Nat), n < d → ∀ w, (Op.equalIn d t X Y).run P w = .ok (decide p) w
  | 0, t, x, y, p, h, μ, X, Y, hx, hy, d, hd, w => by
    obtain ⟨d, rfl⟩ : ∃ d', d = d' + 1 := ⟨d - 1, by omega⟩
    exact Eq0.run h hx hy d w
  | n + 1, t, x, y, p, h, μ, X, Y, hx, hy, d, hd, w => by
    obtain ⟨d, rfl⟩ : ∃ d', d = d' + 1 := ⟨d - 1, by omega⟩
    rcases h with h | ⟨xs, ys, fs, rfl, rfl, hE, hF, h⟩
    · exact Eq0.run h hx hy d w
    · obtain ⟨gs, h1, h2, h3, h4⟩ := hE.eq
      obtain ⟨gs', k1, k2⟩ := hF.eq
      rw [h1] at k1
      cases k1
      obtain ⟨Xs, rfl, a1, a2⟩ := hx.agg'
      obtain ⟨Ys, rfl, b1, b2⟩ := hy.agg'
      have e : P.fieldsOf t = gs := by simp [Program.fieldsOf, h1]
      rw [run_equalIn_agg w d t Xs Ys (by rw [e]; exact h1) h3, e]
      exact EqFs.run (fun h hx hy w => EqL.run n h hx hy d (by omega) w) a1 a2 b1 b2 gs.toList k2 h2 h w
section
variable {P : Program} {ρ : Operand → Option Value} {m : Mem} {d : Option Tmp} {t : TypeId} {pp : String} {af : Array Edge} {g : Option (Nat × Bool)}
open Classical in
theorem ok_agg_eql {xt yt : TypeId} {x y : Operand} {xs ys : Array Value} {fs : List (TypeId × Nat)} {p : Prop} [hE : TyE P xt] [hF : TyF P xt fs] (hx : ρ x = some (.agg xs)) (hy : ρ y = some (.agg ys)) (h : EqFs P (EqL P 3) xs.toList ys.toList fs p) :
    OpOK P ⟨d, .binOp .eql xt x y yt, t, pp, af, g⟩ ρ m (.bool (decide p)) m := .val fun _ _ μ A w _ _ ho => by
  have h1 := ho x _ (by simp [Op.operands]) hx
  have h2 := ho y _ (by simp [Op.operands]) hy
  obtain ⟨Xs, e1, _, _⟩ := h1.agg'
  obtain ⟨Ys, e2, _, _⟩ := h2.agg'
  have hr := EqL.run 4 (P := P) (t := xt) (x := .agg xs) (y := .agg ys) (p := p) (.inr ⟨xs, ys, fs, rfl, rfl, hE, hF, h⟩) h1 h2 10000 (by omega) w
  obtain ⟨gs, q1, q2, q3, q4⟩ := hE.eq
  rw [e1, e2] at hr
  refine ⟨_, ?_, .bool _⟩
  simp [execOp, e1, e2, run_eqGuard_agg w .eql xt x y Xs Ys q4, run_eql_struct, hr]
open Classical in
theorem ok_agg_neq {xt yt : TypeId} {x y : Operand} {xs ys : Array Value} {fs : List (TypeId × Nat)} {p : Prop} [hE : TyE P xt] [hF : TyF P xt fs] (hx : ρ x = some (.agg xs)) (hy : ρ y = some (.agg ys)) (h : EqFs P (EqL P 3) xs.toList ys.toList fs p) :
    OpOK P ⟨d, .binOp .neq xt x y yt, t, pp, af, g⟩ ρ m (.bool (decide (¬ p))) m := .val fun _ _ μ A w _ _ ho => by
  have h1 := ho x _ (by simp [Op.operands]) hx
  have h2 := ho y _ (by simp [Op.operands]) hy
  obtain ⟨Xs, e1, _, _⟩ := h1.agg'
  obtain ⟨Ys, e2, _, _⟩ := h2.agg'
  have hr := EqL.run 4 (P := P) (t := xt) (x := .agg xs) (y := .agg ys) (p := p) (.inr ⟨xs, ys, fs, rfl, rfl, hE, hF, h⟩) h1 h2 10000 (by omega) w
  obtain ⟨gs, q1, q2, q3, q4⟩ := hE.eq
  rw [e1, e2] at hr
  refine ⟨_, ?_, .bool _⟩
  by_cases hp : p <;> simp [execOp, e1, e2, run_eqGuard_agg w .neq xt x y Xs Ys q4, run_neq_struct, hr, hp]
theorem ok_bool_eql {xt yt : TypeId} {x y : Operand} {a b : Bool} [Ty P xt .bool] (hx : ρ x = some (.bool a)) (hy : ρ y = some (.bool b)) : OpOK P ⟨d, .binOp .eql xt x y yt, t, pp, af, g⟩ ρ m (.bool (decide (a = b))) m := .val fun _ _ μ A w _ _ ho => by
  have h1 := (ho x _ (by simp [Op.operands]) hx).bool'
  have h2 := (ho y _ (by simp [Op.operands]) hy).bool'
  refine ⟨_, ?_, .bool _⟩
  have := run_equalIn_bool' w 9999 xt a b (Ty.eq (P := P) (t := xt))
  simp only [execOp, h1, h2, eqGuard, binOp, Op.equal, Op.maxDepth]
  split
  · simp [this]; cases a <;> cases b <;> rfl
  · simp [this]; cases a <;> cases b <;> rfl
theorem ok_bool_neq {xt yt : TypeId} {x y : Operand} {a b : Bool} [Ty P xt .bool] (hx : ρ x = some (.bool a)) (hy : ρ y = some (.bool b)) : OpOK P ⟨d, .binOp .neq xt x y yt, t, pp, af, g⟩ ρ m (.bool (decide (¬ a = b))) m := .val fun _ _ μ A w _ _ ho => by
  have h1 := (ho x _ (by simp [Op.operands]) hx).bool'
  have h2 := (ho y _ (by simp [Op.operands]) hy).bool'
  refine ⟨_, ?_, .bool _⟩
  have := run_equalIn_bool' w 9999 xt a b (Ty.eq (P := P) (t := xt))
  simp only [execOp, h1, h2, eqGuard, binOp, Op.equal, Op.maxDepth]
  split
  · simp [this]; cases a <;> cases b <;> rfl
  · simp [this]; cases a <;> cases b <;> rfl
theorem run_equalIn_ptr {P : Program} (w : World) (d : Nat) (t e : TypeId) (a : Addr) (h : P.underlying t = some (.pointer e)) : (Op.equalIn (d + 1) t (.pointer (some a)) (.pointer none)).run P w = .ok false w := by
  simp only [Op.equalIn, Sem.run_bind, run_und h, Result.andThen_ok, Sem.run_pure]
/-- A pointer that is there, against nil. -/
theorem ok_ptr_eql {xt yt e : TypeId} {x y : Operand} {ad : Addr} [Ty P xt (.pointer e)] (hx : ρ x = some (.pointer (some ad))) (hy : ρ y = some (.pointer none)) : OpOK P ⟨d, .binOp .eql xt x y yt, t, pp, af, g⟩ ρ m (.bool false) m := .val fun _ _ μ A w _ _ ho => by
  have h1 := ho x _ (by simp [Op.operands]) hx
  have h2 := ho y _ (by simp [Op.operands]) hy
  generalize hX : A.eval x = X at h1
  generalize hY : A.eval y = Y at h2
  cases h1; cases h2
  have hr := fun a => run_equalIn_ptr w 9999 xt e a (Ty.eq (P := P) (t := xt))
  refine ⟨_, ?_, .bool _⟩
  simp only [execOp, hX, hY, eqGuard, binOp, Op.equal, Op.maxDepth]
  split <;> simp [hr]
theorem ok_ptr_neq {xt yt e : TypeId} {x y : Operand} {ad : Addr} [Ty P xt (.pointer e)] (hx : ρ x = some (.pointer (some ad))) (hy : ρ y = some (.pointer none)) : OpOK P ⟨d, .binOp .neq xt x y yt, t, pp, af, g⟩ ρ m (.bool true) m := .val fun _ _ μ A w _ _ ho => by
  have h1 := ho x _ (by simp [Op.operands]) hx
  have h2 := ho y _ (by simp [Op.operands]) hy
  generalize hX : A.eval x = X at h1
  generalize hY : A.eval y = Y at h2
  cases h1; cases h2
  have hr := fun a => run_equalIn_ptr w 9999 xt e a (Ty.eq (P := P) (t := xt))
  refine ⟨_, ?_, .bool _⟩
  simp only [execOp, hX, hY, eqGuard, binOp, Op.equal, Op.maxDepth]
  split <;> simp [hr]
end
end Go.Proofs.Ytmmaolnjjjdecaa.Av
