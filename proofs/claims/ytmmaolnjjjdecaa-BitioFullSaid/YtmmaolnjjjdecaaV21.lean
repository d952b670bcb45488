/- Walking in numbers of one's own: rows of slices of structs, named. -/
import Derived.Test.YtmmaolnjjjdecaaV20
set_option linter.unusedVariables false
set_option linter.unusedSimpArgs false
namespace Go.Proofs.Ytmmaolnjjjdecaa.Av
section
variable {P : Program} {ρ : Operand → Option Value} {m : Mem} {d : Option Tmp} {t : TypeId} {pp : String} {af : Array Edge} {g : Option (Nat × Bool)}
theorem ok_load_rowsE {t' : TypeId} {α : Type} {f : α → List Value} {l : List α} {a : α} {cs : List Value} {r : Bool} {z0 : Nat} {x : Operand} {id o n b : Nat} {zs : List Value} {D} (j : Nat) (hf : ∀ a, (f a).length = n) (ha : l[j]? = some a) (hv : f a = cs) [Ty P t' D] [TyI P t' n b zs] (hx : ρ x = some (.pointer (some ⟨id, o, none⟩))) (hB : live m id = some ⟨l.flatMap f, r, z0⟩) (hD : aggD D = true) (hj : o = j * n) :
    OpOK P ⟨d, .load t' x, t, pp, af, g⟩ ρ m (.agg cs.toArray) m := by
  subst hj hv
  exact ok_loadN hx hB hD (flat_take l (fun a _ => hf a) ha)
theorem ok_load_rowcellE {t' : TypeId} {α : Type} {f : α → List Value} {l : List α} {a : α} {r : Bool} {z0 : Nat} {x : Operand} {id o n : Nat} {v : Value} {D} (j i : Nat) (hf : ∀ a, (f a).length = n) (ha : l[j]? = some a) (hv : (f a)[i]? = some v) (hin : i < n) [Ty P t' D] (hx : ρ x = some (.pointer (some ⟨id, o, none⟩))) (hB : live m id = some ⟨l.flatMap f, r, z0⟩) (hD : aggD D = false) (hj : o = j * n + i) :
    OpOK P ⟨d, .load t' x, t, pp, af, g⟩ ρ m v m := by
  subst hj
  exact ok_load_at hx hB hD ((flat_get l (fun a _ => hf a) j i _ ha hin).trans hv)
end
end Go.Proofs.Ytmmaolnjjjdecaa.Av
