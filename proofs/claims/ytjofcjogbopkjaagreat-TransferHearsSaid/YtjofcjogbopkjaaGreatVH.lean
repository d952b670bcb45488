/- Walking in numbers of one's own: the library, part H. -/
import Derived.Test.YtjofcjogbopkjaaGreatVG
import Derived.MapKept
set_option linter.unusedVariables false
set_option linter.unusedSimpArgs false
/- Walking in numbers of one's own: functions that hold values; rows of slices of structs. -/
namespace Go.Proofs.YtjofcjogbopkjaaGreat.Av
section
variable {P : Program} {ρ : Operand → Option Value} {m : Mem} {d : Option Tmp} {t : TypeId} {pp : String} {af : Array Edge} {g : Option (Nat × Bool)}
theorem ok_makeFunc {fn : Fn} {xs ys : Array Operand} {vs us : List Value} (hx : ArgsR ρ xs.toList vs) (hy : ArgsR ρ ys.toList us) : OpOK P ⟨d, .makeFunc fn xs ys, t, pp, af, g⟩ ρ m (.func fn vs.toArray us.toArray) m := .val fun _ _ μ A w _ _ ho => by
  have h1 := hx.vr (μ := μ) (a := A) fun x u h hu => ho x u (by simp only [Op.operands, Array.mem_append]; exact .inl (by simpa using h)) hu
  have h2 := hy.vr (μ := μ) (a := A) fun x u h hu => ho x u (by simp only [Op.operands, Array.mem_append]; exact .inr (by simpa using h)) hu
  have l1 := hx.len
  have l2 := hy.len
  refine ⟨.func fn (xs.map A.eval) (ys.map A.eval), by simp [execOp, Instr.makeFunc], .func (by simpa using l1.symm) (fun i u v hu hv => ?_) (by simpa using l2.symm) (fun i u v hu hv => ?_)⟩
  · exact h1 i u v (by simpa using hu) (by simpa using hv)
  · exact h2 i u v (by simpa using hu) (by simpa using hv)
theorem flat_take {α : Type} {f : α → List Value} {c : Nat} (l : List α) (hl : ∀ a ∈ l, (f a).length = c) {j : Nat} {a : α} (h : l[j]? = some a) : TakeR (l.flatMap f) (j * c) c (f a) := by
  have hlen := flat_len l hl
  have hj := (List.getElem?_eq_some_iff.1 h).1
  have hle : j * c + c ≤ (l.flatMap f).length := by
    rw [hlen, show j * c + c = (j + 1) * c from (Nat.succ_mul j c).symm]
    exact Nat.mul_le_mul_right _ hj
  have hT := TakeR.of (l := l.flatMap f) hle
  have e : ((l.flatMap f).drop (j * c)).take c = f a := by
    have hfa : (f a).length = c := hl a (List.mem_of_getElem? h)
    apply List.ext_getElem?
    intro i
    rcases Nat.lt_or_ge i c with hi | hi
    · rw [List.getElem?_take, if_pos hi, List.getElem?_drop]
      exact flat_get l hl j i a h hi
    · rw [List.getElem?_eq_none (by simp; omega), List.getElem?_eq_none (by omega)]
  rwa [e] at hT
end
end Go.Proofs.YtjofcjogbopkjaaGreat.Av
/- Walking in numbers of one's own: rows of slices of structs, named. -/
namespace Go.Proofs.YtjofcjogbopkjaaGreat.Av
section
variable {P : Program} {ρ : Operand → Option Value} {m : Mem} {d : Option Tmp} {t : TypeId} {pp : String} {af : Array Edge} {g : Option (Nat × Bool)}
theorem ok_load_rowsE {t' : TypeId} {α : Type} {f : α → List Value} {l : List α} {a : α} {cs : List Value} {r : Bool} {z0 : Nat} {x : Operand} {id o n b : Nat} {zs : List Value} {D} (j : Nat) (hf : ∀ a, (f a).length = n) (ha : l[j]? = some a) (hv : f a = cs) [Ty P t' D] [TyI P t' n b zs] (hx : ρ x = some (.pointer (some ⟨id, o, none⟩))) (hB : live m id = some ⟨l.flatMap f, r, z0⟩) (hD : aggD D = true) (hj : o = j * n) (hz : Nat.beq z0 mapZ = false := by rfl) :
    OpOK P ⟨d, .load t' x, t, pp, af, g⟩ ρ m (.agg cs.toArray) m := by
  subst hj hv
  exact ok_loadN hx hB hD (flat_take l (fun a _ => hf a) ha) hz
theorem ok_load_rowcellE {t' : TypeId} {α : Type} {f : α → List Value} {l : List α} {a : α} {r : Bool} {z0 : Nat} {x : Operand} {id o n : Nat} {v : Value} {D} (j i : Nat) (hf : ∀ a, (f a).length = n) (ha : l[j]? = some a) (hv : (f a)[i]? = some v) (hin : i < n) [Ty P t' D] (hx : ρ x = some (.pointer (some ⟨id, o, none⟩))) (hB : live m id = some ⟨l.flatMap f, r, z0⟩) (hD : aggD D = false) (hj : o = j * n + i) (hz : Nat.beq z0 mapZ = false := by rfl) :
    OpOK P ⟨d, .load t' x, t, pp, af, g⟩ ρ m v m := by
  subst hj
  exact ok_load_at hx hB hD ((flat_get l (fun a _ => hf a) j i _ ha hin).trans hv) hz
end
end Go.Proofs.YtjofcjogbopkjaaGreat.Av
/- Walking in numbers of one's own: what is compared with itself. -/
namespace Go.Proofs.YtjofcjogbopkjaaGreat.Av
section
variable {P : Program} {ρ : Operand → Option Value} {m : Mem} {d : Option Tmp} {t : TypeId} {pp : String} {af : Array Edge} {g : Option (Nat × Bool)}
theorem ok_str_eqlT {xt x y yt s} (hx : ρ x = some (.string s)) (hy : ρ y = some (.string s)) : OpOK P ⟨d, .binOp .eql xt x y yt, t, pp, af, g⟩ ρ m (.bool true) m := by
  have := ok_str_eql (P := P) (m := m) (d := d) (t := t) (pp := pp) (af := af) (g := g) (xt := xt) (yt := yt) hx hy
  rwa [decide_eq_true rfl] at this
theorem ok_str_neqF {xt x y yt s} (hx : ρ x = some (.string s)) (hy : ρ y = some (.string s)) : OpOK P ⟨d, .binOp .neq xt x y yt, t, pp, af, g⟩ ρ m (.bool false) m := by
  have := ok_str_neq (P := P) (m := m) (d := d) (t := t) (pp := pp) (af := af) (g := g) (xt := xt) (yt := yt) hx hy
  rwa [decide_eq_false (fun h => h rfl)] at this
open Classical in
open Classical in
end
open Go.RowKit (Below)
open Go.ChangeShapes Go.WideShapes Go.ChangeAt
theorem calls_rd0 {P : Program} {f : FuncId} {args ys : List Value} {bs : List RB} {ls : List (Nat × Nat)} {W : World} {r : Value} (h : ∃ m', ACalls P f args (bs.map fun B => some ⟨B.cells, false, B.z⟩) r m') (hr : plain 6 r = true)
    (hl : ls.length = bs.length) (hv : ∀ μ, At μ 0 bs ls → VRL μ args ys) (hc : CellsAt W bs ls) (hmz : (bs.all fun B => !Nat.beq B.z mapZ) = true := by rfl) : Calls P f ys.toArray W fun e w' => e = .returned r ∧ Below W.heap.size W w' := by
  obtain ⟨m', h⟩ := h
  let μ : Mu := fun i => match bs[i]?, ls[i]? with | some B, some p => some ⟨p.1, p.2, 0, B.z, false⟩ | _, _ => none
  have hA : At μ 0 bs ls := fun i B p h1 h2 => by show (match bs[0 + i]?, ls[0 + i]? with | some B, some p => some (Loc.mk p.1 p.2 0 B.z false) | _, _ => none) = _; rw [Nat.zero_add, h1, h2]
  have hvv := hv μ hA
  have hlen := hvv.len
  refine calls_of h hr (fun i hi => ?_) (repM_ro fun id B hB => ?_) (by simpa using hlen) hvv.at
  · have : bs[i]? = none := List.getElem?_eq_none (by simpa using hi)
    show (match bs[i]?, ls[i]? with | some B, some p => some (Loc.mk p.1 p.2 0 B.z false) | _, _ => none) = none
    rw [this]
  · rw [live_some, List.getElem?_map] at hB
    cases hq : bs[id]? with
    | none => rw [hq] at hB; cases hB
    | some B' =>
      rw [hq] at hB
      simp at hB
      subst hB
      have hlt := (List.getElem?_eq_some_iff.1 hq).1
      have hp : ls[id]? = some ls[id] := List.getElem?_eq_getElem (by omega)
      have := hA id B' _ hq hp
      rw [Nat.zero_add] at this
      exact ⟨rfl, _, this, rfl, rfl, notMap (by simpa using List.all_eq_true.1 hmz B' (List.mem_of_getElem? hq)), (hc id B' _ hq hp μ).z (notMap (by simpa using List.all_eq_true.1 hmz B' (List.mem_of_getElem? hq)))⟩
end Go.Proofs.YtjofcjogbopkjaaGreat.Av
/- Walking in numbers of one's own: loops named by their place. -/
namespace Go.Proofs.YtjofcjogbopkjaaGreat.Av
def loopsOf : Code → List Code
  | .seq a b => loopsOf a ++ loopsOf b
  | .cond _ a b => loopsOf a ++ loopsOf b
  | .block _ c => loopsOf c
  | .loop c => c :: loopsOf c
  | _ => []
/-- The code of a function's loop, the outer one first. -/
def loopAt (f : Func) (k : Nat) : Code := match f.body with
  | some c => (loopsOf c).getD k .skip
  | none => .skip
end Go.Proofs.YtjofcjogbopkjaaGreat.Av
/- Walking in numbers of one's own: maps keyed by integers. -/
namespace Go.Proofs.YtjofcjogbopkjaaGreat.Av
open Go.MapKept
section
variable {F : Nat → Prop} {w0 : World} {μ : Mu} {m : Mem} {w : World}
end
/-- Cells and entries, one beside the other. -/
inductive MapR (μ : Mu) : List Value → List MapEntry → Prop
  | nil : MapR μ [] []
  | cons {k v e cs es} : VR μ k e.key → VR μ v e.val → MapR μ cs es → MapR μ (k :: v :: cs) (e :: es)
section
variable {P : Program} {ρ : Operand → Option Value} {m : Mem} {d : Option Tmp} {t : TypeId} {pp : String} {af : Array Edge} {g : Option (Nat × Bool)}
end
/-! ### calls that make memory, in a region that draws its order -/
section
variable {P : Program} {ops : Array Oper} {M : List Nat} {kb base i : Nat} {l : List Oper} {σ : Slots} {m m' : Mem} {cr : List Nat} {K : Slots → Mem → Prop} {d : Option Tmp} {t : TypeId} {pp : String} {af : Array Edge}
theorem extR_new : ∀ (v m N : Mem), v.length = m.length → (N.all fun b => match b with | some B => B.rw | none => true) = true → ExtR v (v ++ N) m (m ++ N)
  | [], [], N, _, h => .nil h
  | x :: v, y :: m, N, h, hN => .cons (extR_new v m N (by simpa using h) hN)
end
end Go.Proofs.YtjofcjogbopkjaaGreat.Av
/- Walking in numbers of one's own: slices compared with nil. -/
namespace Go.Proofs.YtjofcjogbopkjaaGreat.Av
section
variable {P : Program} {ρ : Operand → Option Value} {m : Mem} {d : Option Tmp} {t : TypeId} {pp : String} {af : Array Edge} {g : Option (Nat × Bool)}
end
end Go.Proofs.YtjofcjogbopkjaaGreat.Av
