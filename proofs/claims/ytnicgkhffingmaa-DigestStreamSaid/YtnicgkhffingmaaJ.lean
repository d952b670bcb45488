/- The kinds of this seat's types, for the rows. -/
import Derived.Test.YtnicgkhffingmaaI
import Derived.Test.YtnicgkhffingmaaVG
set_option linter.unusedVariables false
set_option linter.unusedSimpArgs false
namespace Go.Proofs.Ytnicgkhffingmaa
open Go Av
instance : AggT Try.prog 1 false := ⟨_, Try.underlying1, rfl⟩
instance : AggT Try.prog 2 false := ⟨_, Try.underlying2, rfl⟩
instance : AggT Try.prog 3 false := ⟨_, Try.underlying3, rfl⟩
instance : AggT Try.prog 4 false := ⟨_, Try.underlying4, rfl⟩
instance : AggT Try.prog 5 false := ⟨_, Try.underlying5, rfl⟩
instance : AggT Try.prog 6 false := ⟨_, Try.underlying6, rfl⟩
instance : AggT Try.prog 7 true := ⟨_, Try.underlying7, rfl⟩
instance : AggT Try.prog 8 true := ⟨_, Try.underlying8, rfl⟩
instance : AggT Try.prog 9 false := ⟨_, Try.underlying9, rfl⟩
instance : AggT Try.prog 10 false := ⟨_, Try.underlying10, rfl⟩
instance : AggT Try.prog 11 false := ⟨_, Try.underlying11, rfl⟩
instance : AggT Try.prog 12 false := ⟨_, Try.underlying12, rfl⟩
instance : AggT Try.prog 13 true := ⟨_, Try.underlying13, rfl⟩
instance : AggT Try.prog 14 true := ⟨_, Try.underlying14, rfl⟩
instance : AggT Try.prog 15 false := ⟨_, Try.underlying15, rfl⟩
instance : AggT Try.prog 16 false := ⟨_, Try.underlying16, rfl⟩
instance : AggT Try.prog 17 false := ⟨_, Try.underlying17, rfl⟩
instance : AggT Try.prog 18 true := ⟨_, Try.underlying18, rfl⟩
instance : AggT Try.prog 19 true := ⟨_, Try.underlying19, rfl⟩
instance : AggT Try.prog 20 false := ⟨_, Try.underlying20, rfl⟩
instance : AggT Try.prog 21 false := ⟨_, Try.underlying21, rfl⟩
instance : AggT Try.prog 22 false := ⟨_, Try.underlying22, rfl⟩
instance : AggT Try.prog 23 false := ⟨_, Try.underlying23, rfl⟩
instance : AggT Try.prog 24 false := ⟨_, Try.underlying24, rfl⟩
instance : AggT Try.prog 25 false := ⟨_, Try.underlying25, rfl⟩
instance : AggT Try.prog 26 false := ⟨_, Try.underlying26, rfl⟩
instance : AggT Try.prog 27 false := ⟨_, Try.underlying27, rfl⟩
instance : AggT Try.prog 28 false := ⟨_, Try.underlying28, rfl⟩
instance : AggT Try.prog 29 false := ⟨_, Try.underlying29, rfl⟩
instance : AggT Try.prog 30 false := ⟨_, Try.underlying30, rfl⟩
instance : AggT Try.prog 31 false := ⟨_, Try.underlying31, rfl⟩
instance : AggT Try.prog 33 false := ⟨_, Try.underlying33, rfl⟩
instance : AggT Try.prog 34 false := ⟨_, Try.underlying34, rfl⟩
instance : AggT Try.prog 35 false := ⟨_, Try.underlying35, rfl⟩
instance : AggT Try.prog 36 true := ⟨_, Try.underlying36, rfl⟩
instance : AggT Try.prog 37 false := ⟨_, Try.underlying37, rfl⟩
instance : AggT Try.prog 38 true := ⟨_, Try.underlying38, rfl⟩
instance : AggT Try.prog 39 false := ⟨_, Try.underlying39, rfl⟩
instance : AggT Try.prog 40 false := ⟨_, Try.underlying40, rfl⟩
instance : AggT Try.prog 41 true := ⟨_, Try.underlying41, rfl⟩
instance : AggT Try.prog 42 true := ⟨_, Try.underlying42, rfl⟩
instance : AggT Try.prog 43 false := ⟨_, Try.underlying43, rfl⟩
instance : AggT Try.prog 44 true := ⟨_, Try.underlying44, rfl⟩
instance : AggT Try.prog 45 true := ⟨_, Try.underlying45, rfl⟩
instance : AggT Try.prog 46 false := ⟨_, Try.underlying46, rfl⟩
instance : AggT Try.prog 47 false := ⟨_, Try.underlying47, rfl⟩
instance : AggT Try.prog 48 false := ⟨_, Try.underlying48, rfl⟩
instance : AggT Try.prog 49 false := ⟨_, Try.underlying49, rfl⟩
instance : AggT Try.prog 50 false := ⟨_, Try.underlying50, rfl⟩
instance : AggT Try.prog 51 false := ⟨_, Try.underlying51, rfl⟩
instance : AggT Try.prog 52 false := ⟨_, Try.underlying52, rfl⟩
instance : AggT Try.prog 53 true := ⟨_, Try.underlying53, rfl⟩
instance : AggT Try.prog 54 false := ⟨_, Try.underlying54, rfl⟩
instance : AggT Try.prog 55 false := ⟨_, Try.underlying55, rfl⟩
instance : AggT Try.prog 56 false := ⟨_, Try.underlying56, rfl⟩
instance : AggT Try.prog 57 true := ⟨_, Try.underlying57, rfl⟩
instance : AggT Try.prog 58 false := ⟨_, Try.underlying58, rfl⟩
instance : AggT Try.prog 59 true := ⟨_, Try.underlying59, rfl⟩
instance : AggT Try.prog 60 true := ⟨_, Try.underlying60, rfl⟩
instance : AggT Try.prog 61 true := ⟨_, Try.underlying61, rfl⟩
instance : AggT Try.prog 62 true := ⟨_, Try.underlying62, rfl⟩
instance : AggT Try.prog 63 true := ⟨_, Try.underlying63, rfl⟩
instance : AggT Try.prog 64 true := ⟨_, Try.underlying64, rfl⟩
instance : AggT Try.prog 65 true := ⟨_, Try.underlying65, rfl⟩
instance : AggT Try.prog 66 false := ⟨_, Try.underlying66, rfl⟩
instance : AggT Try.prog 67 false := ⟨_, Try.underlying67, rfl⟩
instance : AggT Try.prog 68 false := ⟨_, Try.underlying68, rfl⟩
instance : AggT Try.prog 69 false := ⟨_, Try.underlying69, rfl⟩
instance : AggT Try.prog 70 false := ⟨_, Try.underlying70, rfl⟩
instance : AggT Try.prog 71 false := ⟨_, Try.underlying71, rfl⟩
instance : AggT Try.prog 72 false := ⟨_, Try.underlying72, rfl⟩
instance : AggT Try.prog 73 true := ⟨_, Try.underlying73, rfl⟩
instance : AggT Try.prog 74 true := ⟨_, Try.underlying74, rfl⟩
end Go.Proofs.Ytnicgkhffingmaa
