/- Walking in numbers of one's own: what is compared with itself. -/
import Derived.Test.YtmmaolnjjjdecaaV21
set_option linter.unusedVariables false
set_option linter.unusedSimpArgs false
namespace Go.Proofs.Ytmmaolnjjjdecaa.Av
section
variable {P : Program} {ρ : Operand → Option Value} {m : Mem} {d : Option Tmp} {t : TypeId} {pp : String} {af : Array Edge} {g : Option (Nat × Bool)}
theorem ok_str_eqlT {xt x y yt s} (hx : ρ x = some (.string s)) (hy : ρ y = some (.string s)) : OpOK P ⟨d, .binOp .eql xt x y yt, t, pp, af, g⟩ ρ m (.bool true) m := by
  have := ok_str_eql (P := P) (m := m) (d := d) (t := t) (pp := pp) (af := af) (g := g) (xt := xt) (yt := yt) hx hy
  rwa [decide_eq_true rfl] at this
theorem ok_str_neqF {xt x y yt s} (hx : ρ x = some (.string s)) (hy : ρ y = some (.string s)) : OpOK P ⟨d, .binOp .neq xt x y yt, t, pp, af, g⟩ ρ m (.bool false) m := by
  have := ok_str_neq (P := P) (m := m) (d := d) (t := t) (pp := pp) (af := af) (g := g) (xt := xt) (yt := yt) hx hy
  rwa [decide_eq_false (fun h => h rfl)] at this
open Classical in
theorem ok_agg_eqlT {xt yt : TypeId} {x y : Operand} {xs ys : Array Value} {fs : List (TypeId × Nat)} {p : Prop} [hE : TyE P xt] [hF : TyF P xt fs] (hx : ρ x = some (.agg xs)) (hy : ρ y = some (.agg ys)) (h : EqFs P (EqL P 3) xs.toList ys.toList fs p) (hp : p) :
    OpOK P ⟨d, .binOp .eql xt x y yt, t, pp, af, g⟩ ρ m (.bool true) m := by
  have := ok_agg_eql (m := m) (d := d) (t := t) (pp := pp) (af := af) (g := g) (xt := xt) (yt := yt) hx hy h
  rwa [decide_eq_true hp] at this
open Classical in
theorem ok_agg_neqF {xt yt : TypeId} {x y : Operand} {xs ys : Array Value} {fs : List (TypeId × Nat)} {p : Prop} [hE : TyE P xt] [hF : TyF P xt fs] (hx : ρ x = some (.agg xs)) (hy : ρ y = some (.agg ys)) (h : EqFs P (EqL P 3) xs.toList ys.toList fs p) (hp : p) :
    OpOK P ⟨d, .binOp .neq xt x y yt, t, pp, af, g⟩ ρ m (.bool false) m := by
  have := ok_agg_neq (m := m) (d := d) (t := t) (pp := pp) (af := af) (g := g) (xt := xt) (yt := yt) hx hy h
  rwa [decide_eq_false (fun h => h hp)] at this
end
open Go.RowKit (Below)
open Go.ChangeShapes Go.WideShapes Go.ChangeAt
theorem calls_rd0 {P : Program} {f : FuncId} {args ys : List Value} {bs : List RB} {ls : List (Nat × Nat)} {W : World} {r : Value} (h : ∃ m', ACalls P f args (bs.map fun B => some ⟨B.cells, false, B.z⟩) r m') (hr : plain 6 r = true)
    (hl : ls.length = bs.length) (hv : ∀ μ, At μ 0 bs ls → VRL μ args ys) (hc : CellsAt W bs ls) : Calls P f ys.toArray W fun e w' => e = .returned r ∧ Below W.heap.size W w' := by
  obtain ⟨m', h⟩ := h
  let μ : Mu := fun i => match bs[i]?, ls[i]? with | some B, some p => some ⟨p.1, p.2, 0, B.z, false⟩ | _, _ => none
  have hA : At μ 0 bs ls := fun i B p h1 h2 => by show (match bs[0 + i]?, ls[0 + i]? with | some B, some p => some (Loc.mk p.1 p.2 0 B.z false) | _, _ => none) = _; rw [Nat.zero_add, h1, h2]
  have hvv := hv μ hA
  have hlen := hvv.len
  refine calls_of h hr (fun i hi => ?_) (repM_ro fun id B hB => ?_) (by simpa using hlen) hvv.at
  · have : bs[i]? = none := List.getElem?_eq_none (by simpa using hi)
    show (match bs[i]?, ls[i]? with | some B, some p => some (Loc.mk p.1 p.2 0 B.z false) | _, _ => none) = none
    rw [this]
  · rw [live_some, List.getElem?_map] at hB
    cases hq : bs[id]? with
    | none => rw [hq] at hB; cases hB
    | some B' =>
      rw [hq] at hB
      simp at hB
      subst hB
      have hlt := (List.getElem?_eq_some_iff.1 hq).1
      have hp : ls[id]? = some ls[id] := List.getElem?_eq_getElem (by omega)
      have := hA id B' _ hq hp
      rw [Nat.zero_add] at this
      exact ⟨rfl, _, this, rfl, rfl, hc id B' _ hq hp μ⟩
end Go.Proofs.Ytmmaolnjjjdecaa.Av
