/- Join: joiners checked. -/
import Derived.Test.YtdbcbclapipgdaaGreatDoorVO
import Derived.Test.YtdbcbclapipgdaaGreatDoorJ
set_option linter.unusedVariables false
set_option linter.unusedSimpArgs false
namespace Go.Proofs.YtdbcbclapipgdaaGreatDoor
open Go Av
set_option maxRecDepth 20000
open Go.MapKept in
theorem ok_lookup_nof {P : Program} {ρ : Operand → Option Value} {m : Mem} {d : Option Tmp} {t : TypeId} {pp : String} {af : Array Edge} {g : Option (Nat × Bool)} {t' kt et : TypeId} {k : IntKind} {x y : Operand} {id : Nat} {n : Int} {cs : List Value} [Ty P t' (.map kt et)] [Ty P kt (.int k)] (hI : (P.info? et).map (fun i => i.zero) = some (some .nilFunc)) (hx : ρ x = some (.map (some id))) (hy : ρ y = some (.int k n)) (hB : live m id = some ⟨cs, true, mapZ⟩) (hno : noKey k n cs = true) :
    OpOK P ⟨d, .lookup t' x y false, t, pp, af, g⟩ ρ m .nilFunc m := .val fun F w0 μ A w hd hm ho => by
  obtain ⟨L, hL, e1⟩ := (ho x _ (by simp [Op.operands]) hx).map'
  have e2 := (ho y _ (by simp [Op.operands]) hy).int'
  obtain ⟨r1, r2, es, c, r3, r4, r5⟩ := hm.mapAt hB rfl hL (.inl rfl)
  obtain ⟨i, i1, i4⟩ : ∃ i, P.info? et = some i ∧ i.zero = some .nilFunc := by
    cases hi : P.info? et with
    | none => rw [hi] at hI; cases hI
    | some i => rw [hi] at hI; exact ⟨i, rfl, Option.some.inj hI⟩
  refine ⟨_, ?_, .fnil⟩
  simp [execOp, e1, e2, Instr.lookup, run_und (Ty.eq (P := P) (t := t')), MapKept.run_getObj_map r3, MapKept.run_checkKey (Ty.eq (P := P) (t := kt)) (k := .int k n) (by simp [IsKey]), MapKept.run_findKey (Ty.eq (P := P) (t := kt)) (findNow_no (kd := k) r5 hno 0), Result.andThen, run_zero i1 i4]
theorem run_equalIn_fn0 {P : Program} (w : World) (d : Nat) (t : TypeId) {a r : Array TypeId} {vd : Bool} (h : P.underlying t = some (.func a r vd)) : (Op.equalIn (d + 1) t .nilFunc .nilFunc).run P w = .ok true w := by
  simp only [Op.equalIn, Sem.run_bind, run_und h, Result.andThen_ok, Sem.run_pure]
theorem run_equalIn_fn1 {P : Program} (w : World) (d : Nat) (t : TypeId) {a r : Array TypeId} {vd : Bool} (fn : Fn) (xs ys : Array Value) (h : P.underlying t = some (.func a r vd)) : (Op.equalIn (d + 1) t (.func fn xs ys) .nilFunc).run P w = .ok false w := by
  simp only [Op.equalIn, Sem.run_bind, run_und h, Result.andThen_ok, Sem.run_pure]
theorem ok_fn_nil {P : Program} {ρ : Operand → Option Value} {m : Mem} {d : Option Tmp} {t : TypeId} {pp : String} {af : Array Edge} {g : Option (Nat × Bool)} {xt yt : TypeId} {x y : Operand} {a r : Array TypeId} {vd : Bool} [Ty P xt (.func a r vd)] (hx : ρ x = some .nilFunc) (hy : ρ y = some .nilFunc) : OpOK P ⟨d, .binOp .eql xt x y yt, t, pp, af, g⟩ ρ m (.bool true) m := .val fun _ _ μ A w _ _ ho => by
  have h1 := ho x _ (by simp [Op.operands]) hx
  have h2 := ho y _ (by simp [Op.operands]) hy
  generalize hX : A.eval x = X at h1
  generalize hY : A.eval y = Y at h2
  cases h1
  cases h2
  refine ⟨_, ?_, .bool _⟩
  have hr : (Op.equalIn 10000 xt .nilFunc .nilFunc).run P w = .ok true w := run_equalIn_fn0 (P := P) w 9999 xt Ty.eq
  simp only [execOp, hX, hY, eqGuard, binOp, Op.equal, Op.maxDepth]
  split <;> simp [hr]
theorem ok_fn_some {P : Program} {ρ : Operand → Option Value} {m : Mem} {d : Option Tmp} {t : TypeId} {pp : String} {af : Array Edge} {g : Option (Nat × Bool)} {xt yt : TypeId} {x y : Operand} {a r : Array TypeId} {vd : Bool} {fn : Fn} {us vs : Array Value} [Ty P xt (.func a r vd)] (hx : ρ x = some (.func fn us vs)) (hy : ρ y = some .nilFunc) : OpOK P ⟨d, .binOp .eql xt x y yt, t, pp, af, g⟩ ρ m (.bool false) m := .val fun _ _ μ A w _ _ ho => by
  have h1 := ho x _ (by simp [Op.operands]) hx
  have h2 := ho y _ (by simp [Op.operands]) hy
  generalize hX : A.eval x = X at h1
  generalize hY : A.eval y = Y at h2
  cases h1
  cases h2
  refine ⟨_, ?_, .bool _⟩
  rename_i xs ys _ _ _ _
  have hr : ∀ xs ys, (Op.equalIn 10000 xt (.func fn xs ys) .nilFunc).run P w = .ok false w := fun xs ys => run_equalIn_fn1 (P := P) w 9999 xt fn xs ys Ty.eq
  simp only [execOp, hX, hY, eqGuard, binOp, Op.equal, Op.maxDepth]
  split <;> simp [hr]
end Go.Proofs.YtdbcbclapipgdaaGreatDoor
