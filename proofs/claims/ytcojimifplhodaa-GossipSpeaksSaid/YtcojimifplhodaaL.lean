/- The walked functions' contracts, in numbers of one's own. -/
import Derived.Test.YtcojimifplhodaaV14
import Derived.Test.YtcojimifplhodaaI
import Derived.Test.YtcojimifplhodaaK
namespace Go.Proofs.Ytcojimifplhodaa
open Go Av
set_option maxRecDepth 20000
theorem aw_awake : ACalls Try.prog 9 [] [] (.bool true) [] := acalls_of rfl rfl fun w => (awake_true w).mono fun _ _ h => h
theorem aw_check (l d e : Int) : ACalls Try.prog 18 [.agg #[.int .i64 l, .int .i64 d, .int .i64 e]] [] (.int .i64 (gE l d e)) [] := acalls_of rfl rfl fun w => (check_any l d e w).mono fun _ _ h => h
theorem gE_gok {l d e : Int} (h : ¬ ¬ gE l d e = 0) : gok l d e = true := by
  cases hg : gok l d e with
  | true => rfl
  | false => exact absurd (by simp [gE, hg]) h
theorem aw_great (l d e : Int) (hg : ¬ ¬ gE l d e = 0) : ACalls Try.prog 17 [.agg #[.int .i64 l, .int .i64 d, .int .i64 e]] [] (.int .i64 (top l d)) [] := acalls_of rfl rfl fun w => (Greatest_any l d e w (gE_gok hg)).mono fun _ _ h => h
theorem aw_start (l d e s x : Int) (hx : 0 ≤ x ∧ x ≤ 4294967295) : ACalls Try.prog 10 [.agg #[.int .i64 l, .int .i64 d, .int .i64 e], .int .i64 s, .int .u32 x] [] (.tuple #[.agg #[.int .i64 (stR l d e s x).i, .int .i64 (stR l d e s x).b, .int .i64 (stR l d e s x).p, .int .i64 (stR l d e s x).h], .int .i64 (stE l d e s)]) [] :=
  acalls_of rfl rfl fun w => (Start_any l d e s x w hx.1 hx.2).mono fun _ _ h => h
end Go.Proofs.Ytcojimifplhodaa
