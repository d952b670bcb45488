/- Walking in numbers of one's own: functions that hold values; rows of slices of structs. -/
import Derived.Test.YtmmaolnjjjdecaaV19
set_option linter.unusedVariables false
set_option linter.unusedSimpArgs false
namespace Go.Proofs.Ytmmaolnjjjdecaa.Av
section
variable {P : Program} {ρ : Operand → Option Value} {m : Mem} {d : Option Tmp} {t : TypeId} {pp : String} {af : Array Edge} {g : Option (Nat × Bool)}
theorem ok_makeFunc {fn : Fn} {xs ys : Array Operand} {vs us : List Value} (hx : ArgsR ρ xs.toList vs) (hy : ArgsR ρ ys.toList us) : OpOK P ⟨d, .makeFunc fn xs ys, t, pp, af, g⟩ ρ m (.func fn vs.toArray us.toArray) m := .val fun _ _ μ A w _ _ ho => by
  have h1 := hx.vr (μ := μ) (a := A) fun x u h hu => ho x u (by simp only [Op.operands, Array.mem_append]; exact .inl (by simpa using h)) hu
  have h2 := hy.vr (μ := μ) (a := A) fun x u h hu => ho x u (by simp only [Op.operands, Array.mem_append]; exact .inr (by simpa using h)) hu
  have l1 := hx.len
  have l2 := hy.len
  refine ⟨.func fn (xs.map A.eval) (ys.map A.eval), by simp [execOp, Instr.makeFunc], .func (by simpa using l1.symm) (fun i u v hu hv => ?_) (by simpa using l2.symm) (fun i u v hu hv => ?_)⟩
  · exact h1 i u v (by simpa using hu) (by simpa using hv)
  · exact h2 i u v (by simpa using hu) (by simpa using hv)
theorem flat_take {α : Type} {f : α → List Value} {c : Nat} (l : List α) (hl : ∀ a ∈ l, (f a).length = c) {j : Nat} {a : α} (h : l[j]? = some a) : TakeR (l.flatMap f) (j * c) c (f a) := by
  have hlen := flat_len l hl
  have hj := (List.getElem?_eq_some_iff.1 h).1
  have hle : j * c + c ≤ (l.flatMap f).length := by
    rw [hlen, show j * c + c = (j + 1) * c from (Nat.succ_mul j c).symm]
    exact Nat.mul_le_mul_right _ hj
  have hT := TakeR.of (l := l.flatMap f) hle
  have e : ((l.flatMap f).drop (j * c)).take c = f a := by
    have hfa : (f a).length = c := hl a (List.mem_of_getElem? h)
    apply List.ext_getElem?
    intro i
    rcases Nat.lt_or_ge i c with hi | hi
    · rw [List.getElem?_take, if_pos hi, List.getElem?_drop]
      exact flat_get l hl j i a h hi
    · rw [List.getElem?_eq_none (by simp; omega), List.getElem?_eq_none (by omega)]
  rwa [e] at hT
/-- A struct of a row of structs. -/
theorem ok_load_rows {t' : TypeId} {α : Type} [Inhabited α] {f : α → List Value} {l : List α} {r : Bool} {z z0 : Nat} {x : Operand} {id o n b j : Nat} {zs : List Value} {D} [Ty P t' D] [TyI P t' n b zs] (hf : ∀ a, (f a).length = n) (hx : ρ x = some (.pointer (some ⟨id, o, none⟩))) (hB : live m id = some ⟨l.flatMap f, r, z0⟩) (hD : aggD D = true) (hj : o = j * n) (hi : j < l.length) :
    OpOK P ⟨d, .load t' x, t, pp, af, g⟩ ρ m (.agg (f (l.getD j default)).toArray) m := by
  subst hj
  refine ok_loadN hx hB hD ?_
  have e : l[j]? = some (l.getD j default) := by rw [List.getD_eq_getElem?_getD, List.getElem?_eq_getElem hi]; rfl
  exact flat_take l (fun a _ => hf a) e
/-- One cell of a row of structs. -/
theorem ok_load_rowcell {t' : TypeId} {α : Type} [Inhabited α] {f : α → List Value} {l : List α} {r : Bool} {z0 : Nat} {x : Operand} {id o n i j : Nat} {v : Value} {D} [Ty P t' D] (hf : ∀ a, (f a).length = n) (hx : ρ x = some (.pointer (some ⟨id, o, none⟩))) (hB : live m id = some ⟨l.flatMap f, r, z0⟩) (hD : aggD D = false) (hj : o = j * n + i) (hi : j < l.length) (hin : i < n) (hv : (f (l.getD j default))[i]? = some v) :
    OpOK P ⟨d, .load t' x, t, pp, af, g⟩ ρ m v m := by
  subst hj
  have e : l[j]? = some (l.getD j default) := by rw [List.getD_eq_getElem?_getD, List.getElem?_eq_getElem hi]; rfl
  exact ok_load_at hx hB hD ((flat_get l (fun a _ => hf a) j i _ e hin).trans hv)
end
end Go.Proofs.Ytmmaolnjjjdecaa.Av
