/- Transfer: what the rows hand in. -/
import Derived.Test.YtekkdoaakilafaaY1
set_option linter.unusedVariables false
set_option linter.unusedSimpArgs false
namespace Go.Proofs.Ytekkdoaakilafaa
open Go Av
set_option maxRecDepth 20000
/-- Updates as they are handed in. -/
def toU (a : Int × Int × ByteArray × Int × Int × Int × ByteArray × Unit) : Upd := ⟨a.1, a.2.1, a.2.2.1, a.2.2.2.1, a.2.2.2.2.1, a.2.2.2.2.2.1.toNat, a.2.2.2.2.2.2.1⟩
theorem toU_rows : ∀ (l : List (Int × Int × ByteArray × Int × Int × Int × ByteArray × Unit)), (∀ a ∈ l, 0 ≤ a.2.2.2.2.2.1) → (l.map toU).flatMap updC = l.flatMap fun a => [Value.int .i64 a.1, .int .i64 a.2.1, .string a.2.2.1, .int .i64 a.2.2.2.1, .int .i64 a.2.2.2.2.1, .int .u64 a.2.2.2.2.2.1, .string a.2.2.2.2.2.2.1]
  | [], _ => rfl
  | a :: l, h => by
    rw [List.map_cons, List.flatMap_cons, List.flatMap_cons, toU_rows l fun b hb => h b (List.mem_cons_of_mem _ hb)]
    have h0 := h a List.mem_cons_self
    have e : ((a.2.2.2.2.2.1.toNat : Nat) : Int) = a.2.2.2.2.2.1 := Int.toNat_of_nonneg h0
    show [Value.int .i64 a.1, .int .i64 a.2.1, .string a.2.2.1, .int .i64 a.2.2.2.1, .int .i64 a.2.2.2.2.1, .int .u64 ((a.2.2.2.2.2.1.toNat : Nat) : Int), .string a.2.2.2.2.2.2.1] ++ _ = _
    rw [e]
theorem flat_strs (l : List ByteArray) : (l.flatMap fun n => [Value.string n]) = List.map Value.string l := by
  induction l with
  | nil => rfl
  | cons a l ih => rw [List.flatMap_cons, ih]; rfl
end Go.Proofs.Ytekkdoaakilafaa
