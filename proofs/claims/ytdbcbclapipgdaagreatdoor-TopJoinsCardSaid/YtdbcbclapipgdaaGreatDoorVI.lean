/- Walking in numbers of one's own: the library, part I. -/
import Derived.Test.YtdbcbclapipgdaaGreatDoorVH
import Derived.Laws.IdiomStrings
set_option linter.unusedVariables false
set_option linter.unusedSimpArgs false
/- Walking in numbers of one's own: a call that reads blocks and makes new ones, in a region that draws its order. -/
namespace Go.Proofs.YtdbcbclapipgdaaGreatDoor.Av
section
variable {P : Program} {ρ : Operand → Option Value} {m : Mem} {d : Option Tmp} {t : TypeId} {pp : String} {af : Array Edge} {g : Option (Nat × Bool)}
/-- What is added to an empty slice. -/
theorem ok_append0 {S x : Operand} {sT xT ct e : TypeId} {id o c k sz b : Nat} {z : List Value} {B : Blk} {xs : List Value} {m' : Mem} {k' : Nat} [Ty P sT (.slice e)] [TyI P e sz b z] (hS : ρ S = some (.slice (some ⟨id, o, none⟩) 0 c)) (hB : live m id = some B) (hr : B.rw = true) (hz : Nat.beq B.z sz = true) (hsz : Nat.blt 0 sz = true) (hzl : Nat.beq z.length sz = true)
    (hx : Src P ρ m x xT sz k xs) (hfit : o ≤ B.cells.length) (hsm : k * b ≤ 140737488355328 ∧ k ≤ 9223372036854775807) (hm' : AppR (some ⟨xs, true, sz⟩) (m.set id none) m' k') (hmz : Nat.beq sz mapZ = false := by rfl) :
    OpOK P ⟨d, .call ⟨.builtin .append, #[S, x], #[sT, xT]⟩, ct, pp, af, g⟩ ρ m (.slice (some ⟨k', 0, none⟩) k k) m' := by
  have h := ok_append (P := P) (d := d) (ct := ct) (pp := pp) (af := af) (g := g) (sT := sT) (xT := xT) (n := 0) (olds := []) (cs := xs) hS hB hr hz hsz hzl hx (by simpa using hfit) (by simp) (List.nil_append _) (by simpa using hsm) hm' hmz
  rwa [Nat.zero_add] at h
end
section
variable {P : Program} {ops : Array Oper} {M : List Nat} {kb base i : Nat} {l : List Oper} {σ : Slots} {m m' : Mem} {cr : List Nat} {K : Slots → Mem → Prop} {d : Option Tmp} {t : TypeId} {pp : String} {af : Array Edge}
end
end Go.Proofs.YtdbcbclapipgdaaGreatDoor.Av
/- Walking in numbers of one's own: rows that are stored into; cells of lists, by the element there. -/
namespace Go.Proofs.YtdbcbclapipgdaaGreatDoor.Av
/-- A struct stored into a row of structs. -/
theorem splice_rows {α : Type} {f : α → List Value} {x : α} {l : List α} {n o j : Nat} (hf : ∀ a, (f a).length = n) (hj : o = j * n) (h : j < l.length) : SpliceR (l.flatMap f) o (f x) ((l.set j x).flatMap f) := by
  subst hj
  have hlen := flat_len l (c := n) fun a _ => hf a
  have hle : j * n + (f x).length ≤ (l.flatMap f).length := by
    rw [hlen, hf, show j * n + n = (j + 1) * n from (Nat.succ_mul j n).symm]
    exact Nat.mul_le_mul_right _ h
  have hS := SpliceR.of (l := l.flatMap f) (o := j * n) (vs := f x) hle
  have e : (l.flatMap f).take (j * n) ++ f x ++ (l.flatMap f).drop (j * n + (f x).length) = (l.set j x).flatMap f := by
    rw [hf]
    clear hS hle hlen
    induction l generalizing j with
    | nil => exact absurd h (Nat.not_lt_zero _)
    | cons a l ih =>
      cases j with
      | zero =>
        rw [Nat.zero_mul, Nat.zero_add, List.take_zero, List.nil_append, List.flatMap_cons, List.drop_append_of_le_length (by rw [hf]; exact Nat.le_refl _), List.set_cons_zero, List.flatMap_cons]
        rw [List.drop_of_length_le (by rw [hf]; exact Nat.le_refl _), List.nil_append]
      | succ j =>
        have := ih (j := j) (by simpa using h)
        have e1 : (f a ++ l.flatMap f).take ((j + 1) * n) = f a ++ (l.flatMap f).take (j * n) := by
          rw [List.take_append, List.take_of_length_le (by rw [hf, Nat.succ_mul]; omega), hf, show (j + 1) * n - n = j * n by rw [Nat.succ_mul]; omega]
        have e2 : (f a ++ l.flatMap f).drop ((j + 1) * n + n) = (l.flatMap f).drop (j * n + n) := by
          rw [List.drop_append, List.drop_of_length_le (by rw [hf, Nat.succ_mul]; omega), hf, List.nil_append, show (j + 1) * n + n - n = j * n + n by rw [Nat.succ_mul]; omega]
        rw [List.flatMap_cons, e1, e2, List.set_cons_succ, List.flatMap_cons, List.append_assoc, List.append_assoc, ← this, List.append_assoc]
  rwa [e] at hS
section
variable {P : Program} {ρ : Operand → Option Value} {m : Mem} {d : Option Tmp} {t : TypeId} {pp : String} {af : Array Edge} {g : Option (Nat × Bool)}
/-- An element of a row of cells, that is known. -/
theorem ok_load_mapE {t' : TypeId} {α : Type} {f : α → Value} {l : List α} {a : α} {r : Bool} {z : Nat} {x : Operand} {id o : Nat} {D} (j : Nat) (ha : l[j]? = some a) [Ty P t' D] (hx : ρ x = some (.pointer (some ⟨id, o, none⟩))) (hB : live m id = some ⟨l.map f, r, z⟩) (hD : aggD D = false) (hj : o = j) (hz : Nat.beq z mapZ = false := by rfl) :
    OpOK P ⟨d, .load t' x, t, pp, af, g⟩ ρ m (f a) m := ok_load_at hx hB hD (by subst hj; simp [ha]) hz
end
end Go.Proofs.YtdbcbclapipgdaaGreatDoor.Av
