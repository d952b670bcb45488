/- Messages: do they follow the table? -/
import Derived.Test.YtjamfmnlhiolkaaF1
set_option linter.unusedVariables false
set_option linter.unusedSimpArgs false
namespace Go.Proofs.Ytjamfmnlhiolkaa
open Go Av
set_option maxRecDepth 20000
section
variable {P : Program} {ops : Array Oper} {M : List Nat} {kb base i : Nat} {l : List Oper} {σ : Slots} {m m' : Mem} {cr : List Nat} {K : Slots → Mem → Prop} {d : Option Tmp} {t : TypeId} {pp : String} {af : Array Edge}
/-- A call that makes memory, in a region that draws its order. -/
theorem sdN2 {fx : Operand} {xs : Array Operand} {at_ : Array TypeId} {f : FuncId} [FnI P f] {a1 a2 : Array Value} {vs args : List Value} {r r' : Value} {mc' N : Mem} (nc : Nat) (hc : ACalls P f args [] r mc') (k : RunD P ops M kb base K (i + 1) l (put σ d r') (m ++ N) (cr ++ List.replicate nc i)) (hnc : mc'.length = nc := by rfl)
    (hi : Nat.blt i kb = true := by rfl) (hf : ev σ fx = some (.func (.func f) a1 a2) := by rfl) (hxs : ArgsR (ev σ) xs.toList vs := by ((repeat (apply ArgsR.cons; rfl)); exact ArgsR.nil))
    (hargs : WkL (a1.toList ++ vs ++ a2.toList) (renL (gOf [] ((vis base cr (fun j => (M.getD i 0).testBit j) m).length)) args) := by (first | exact WkL.refl _ | fail))
    (hr : ren (gOf [] ((vis base cr (fun j => (M.getD i 0).testBit j) m).length)) r = r' := by rfl) (hN : mc'.map (image (gOf [] ((vis base cr (fun j => (M.getD i 0).testBit j) m).length))) = N := by rfl)
    (hrw : (N.all fun b => match b with | some B => B.rw | none => true) = true := by rfl) : RunD P ops M kb base K i (⟨d, .call ⟨.value fx, xs, at_⟩, t, pp, af, none⟩ :: l) σ m cr := by
  have e : (m ++ N).length - m.length = nc := by rw [← hN, ← hnc]; simp
  exact sdN hc (by rw [e]; exact k) hi hf hxs hargs hr hN hrw
end
section
variable {P : Program} {ρ : Operand → Option Value} {m : Mem} {d : Option Tmp} {t : TypeId} {pp : String} {af : Array Edge} {g : Option (Nat × Bool)}
theorem ok_lookup2 {t' kt et : TypeId} {k : IntKind} {x y : Operand} {id : Nat} {n : Int} {v : Value} {B : Blk} [Ty P t' (.map kt et)] [Ty P kt (.int k)] (hx : ρ x = some (.map (some id))) (hy : ρ y = some (.int k n)) (hB : live m id = some B) (hz : B.z = mapZ) (hat : atKey? k n B.cells = some v) :
    OpOK P ⟨d, .lookup t' x y false, t, pp, af, g⟩ ρ m v m := ok_lookup hx hy hB (by rw [hz]; exact Nat.beq_refl _) hat
end
/-- A region that draws its order, behind a counted number of blocks. -/
theorem aw_region_dB {P : Program} {nt n0 : Nat} {Q : Exit → Slots → Mem → Prop} {σ : Slots} {m : Mem} {id : Nat} {ops : Array Oper} (b : Nat) (hb : m.length = b) (M : List Nat) (kb : Nat) (hf : P.follows .mixedOrders = true) (hc : chkD ops M kb = true) (hd : dstsOK nt ops = true) (hn : n0 ≤ m.length)
    (h : RunD P ops M kb b (fun σ' m' => Q .normal σ' m') 0 ops.toList σ m []) : AW P nt n0 (.region id ops true) Q σ m := by
  subst hb
  exact aw_region_d M kb hf hc hd hn h
/-- A request follows the table. -/
def flwQ (k c cnt s o : Int) : Prop := c = 0 ∧ ((k = 1 ∧ 1 ≤ cnt ∧ cnt ≤ 8 ∧ cnt ≤ s ∧ o = 0) ∨ (k = 2 ∧ s = 0 ∧ 1 ≤ o ∧ cnt = o) ∨ (k = 3 ∧ 1 ≤ o ∧ cnt = o ∧ cnt ≤ s) ∨ (4 ≤ k ∧ cnt = 0 ∧ s = 0 ∧ o = 0))
instance (k c cnt s o : Int) : Decidable (flwQ k c cnt s o) := by unfold flwQ; infer_instance
/-- A response follows the table. -/
def flwR (k c cnt s o : Int) : Prop := (c ≠ 0 ∧ cnt = 0 ∧ s = 0 ∧ o = 0) ∨ (c = 0 ∧ ((k = 1 ∧ 1 ≤ s ∧ cnt = s ∧ o = 0) ∨ (k = 2 ∧ s = 0 ∧ 1 ≤ o ∧ cnt = o) ∨ (k = 3 ∧ 1 ≤ o ∧ cnt = o ∧ s = o) ∨ (k = 4 ∧ s = 0 ∧ o = 0) ∨ (k = 5 ∧ s = min 8 cnt ∧ o = 0) ∨ (k = 6 ∧ cnt = 0 ∧ s = 0 ∧ o = 0)))
instance (k c cnt s o : Int) : Decidable (flwR k c cnt s o) := by unfold flwR; infer_instance
def flw (r : Bool) (k c cnt s o : Int) : Bool := if r = true then decide (flwR k c cnt s o) else decide (flwQ k c cnt s o)
/-- The table of kinds, its entries given by what is found in it. -/
theorem ac_rowsO : ∃ ENT : List Value, (∀ g, renL g ENT = ENT) ∧ atKey? .i64 1 ENT = some (.agg #[.func (.func 73) #[] #[], .func (.func 74) #[] #[]]) ∧ atKey? .i64 2 ENT = some (.agg #[.func (.func 72) #[] #[], .func (.func 72) #[] #[]]) ∧ atKey? .i64 3 ENT = some (.agg #[.func (.func 75) #[] #[], .func (.func 76) #[] #[]]) ∧ atKey? .i64 4 ENT = some (.agg #[.func (.func 71) #[] #[], .func (.func 77) #[] #[]]) ∧ atKey? .i64 5 ENT = some (.agg #[.func (.func 71) #[] #[], .func (.func 78) #[] #[]]) ∧ atKey? .i64 6 ENT = some (.agg #[.func (.func 71) #[] #[], .func (.func 71) #[] #[]]) ∧ ACalls Try.prog 54 [] [] (.map (some 0)) [some ⟨ENT, true, mapZ⟩] :=
  ⟨_, fun _ => rfl, rfl, rfl, rfl, rfl, rfl, rfl, ac_rows⟩
end Go.Proofs.Ytjamfmnlhiolkaa
