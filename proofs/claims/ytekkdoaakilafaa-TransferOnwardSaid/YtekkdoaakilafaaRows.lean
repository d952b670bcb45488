/-
  No cell of these rows narrows 'for every input' (looked for: loops, veiled, ifaces, maps, wideKeys, modest, calm, conditions, laid).
  DERIVED. THE GIVEN ROWS OF THIS SEAT. 7 by the template 'for every input the law returns true; each argument reads behind the call as it read before'; 0 by the template 'total and deterministic' (their statements: YtekkdoaakilafaaTotals.lean).
  GIVEN WITH THE SEED: the statements are not yours to turn. If you find one false, say at which input.
  Laid BY PROGRAM, IN A SANDBOX (cutbox-rows.mjs): the forced cells as the released guide's own fill.sh prints them over the translation e3e291198c99b85b… (all of the seat's roots in one cut). By AI agents, Wed Nov 11 2026. No macro, syntax, notation, axiom, sorry.
-/
import Derived.Test.YtekkdoaakilafaaChecked
import GoSem.Claim
import GoSem.ClaimJoined
import GoSem.ClaimMapViews
import Derived.JoinedTies
import Derived.KernelRfl
namespace Go.Proofs.Ytekkdoaakilafaa
/- THE CELL 'sum', in the pinned program and in every row, IS THE sha256 OF THE DUMP (.gsa) THAT YtekkdoaakilafaaProg.lean LOADS. Nothing in Lean hashes anything: it is a label: what it is worth is what the hold of that sum in a sandbox is worth. -/
noncomputable def Try.pinned : Pinned := { name := "ytekkdoaakilafaa", sum := "e3e291198c99b85b2a6c14285188c9a2ff2ec9c37cd461b29f689e4e4a349cdf", checked := Try.checked }
namespace Rows
def none {H : Type} : Left H := { results := [], args := [] }

/-- 'hopmeshlaw48.TransferFull': WHATEVER THE INPUT: true; the input reads as it did. -/
def transferFullSpec : ChangeSpec := { name := "transferFull", fn := fun _ => fun
  | [d1, d2] => { results := [.lit (.bool true)], args := [d1, d2] }
  | _ => none }
def transferFullRow : OpenClaim := { program := "ytekkdoaakilafaa", sum := "e3e291198c99b85b2a6c14285188c9a2ff2ec9c37cd461b29f689e4e4a349cdf", func := "hopmesh/hopmeshlaw48.TransferFull", spec := "transferFull", inPlace := ["internal/abi.NoEscape", "internal/bytealg.MakeNoZero"], unfollowed := true, recurses := true, apart := false }
def TransferFullSaid : Prop := transferFullRow.holds Try.pinned (OpenSpec.ofChange transferFullSpec)

/-- ITS FALSE NEIGHBOUR: 'it returns false'. Refute it at one input. -/
def transferFullWrong : ChangeSpec := { name := "transferFull", fn := fun _ => fun
  | [d1, d2] => { results := [.lit (.bool false)], args := [d1, d2] }
  | _ => none }
def TransferFullWrongFalsely : Prop := transferFullRow.holds Try.pinned (OpenSpec.ofChange transferFullWrong)

/-- 'hopmeshlaw48.TransferArrives': WHATEVER THE INPUT: true; the input reads as it did. -/
def transferArrivesSpec : ChangeSpec := { name := "transferArrives", fn := fun _ => fun
  | [d1, d2, d3] => { results := [.lit (.bool true)], args := [d1, d2, d3] }
  | _ => none }
def transferArrivesRow : OpenClaim := { program := "ytekkdoaakilafaa", sum := "e3e291198c99b85b2a6c14285188c9a2ff2ec9c37cd461b29f689e4e4a349cdf", func := "hopmesh/hopmeshlaw48.TransferArrives", spec := "transferArrives", inPlace := ["internal/abi.NoEscape", "internal/bytealg.MakeNoZero"], unfollowed := true, recurses := true, apart := false }
def TransferArrivesSaid : Prop := transferArrivesRow.holds Try.pinned (OpenSpec.ofChange transferArrivesSpec)

/-- ITS FALSE NEIGHBOUR: 'it returns false'. Refute it at one input. -/
def transferArrivesWrong : ChangeSpec := { name := "transferArrives", fn := fun _ => fun
  | [d1, d2, d3] => { results := [.lit (.bool false)], args := [d1, d2, d3] }
  | _ => none }
def TransferArrivesWrongFalsely : Prop := transferArrivesRow.holds Try.pinned (OpenSpec.ofChange transferArrivesWrong)

/-- 'hopmeshlaw48.TransferForged': WHATEVER THE INPUT: true; the input reads as it did. -/
def transferForgedSpec : ChangeSpec := { name := "transferForged", fn := fun _ => fun
  | [d1, d2, d3] => { results := [.lit (.bool true)], args := [d1, d2, d3] }
  | _ => none }
def transferForgedRow : OpenClaim := { program := "ytekkdoaakilafaa", sum := "e3e291198c99b85b2a6c14285188c9a2ff2ec9c37cd461b29f689e4e4a349cdf", func := "hopmesh/hopmeshlaw48.TransferForged", spec := "transferForged", inPlace := ["internal/abi.NoEscape", "internal/bytealg.MakeNoZero"], unfollowed := true, recurses := true, apart := false }
def TransferForgedSaid : Prop := transferForgedRow.holds Try.pinned (OpenSpec.ofChange transferForgedSpec)

/-- ITS FALSE NEIGHBOUR: 'it returns false'. Refute it at one input. -/
def transferForgedWrong : ChangeSpec := { name := "transferForged", fn := fun _ => fun
  | [d1, d2, d3] => { results := [.lit (.bool false)], args := [d1, d2, d3] }
  | _ => none }
def TransferForgedWrongFalsely : Prop := transferForgedRow.holds Try.pinned (OpenSpec.ofChange transferForgedWrong)

/-- 'hopmeshlaw48.TransferIntact': WHATEVER THE INPUT: true; the input reads as it did. -/
def transferIntactSpec : ChangeSpec := { name := "transferIntact", fn := fun _ => fun
  | [d1, d2] => { results := [.lit (.bool true)], args := [d1, d2] }
  | _ => none }
def transferIntactRow : OpenClaim := { program := "ytekkdoaakilafaa", sum := "e3e291198c99b85b2a6c14285188c9a2ff2ec9c37cd461b29f689e4e4a349cdf", func := "hopmesh/hopmeshlaw48.TransferIntact", spec := "transferIntact", inPlace := ["internal/abi.NoEscape", "internal/bytealg.MakeNoZero"], unfollowed := true, recurses := true, apart := false }
def TransferIntactSaid : Prop := transferIntactRow.holds Try.pinned (OpenSpec.ofChange transferIntactSpec)

/-- ITS FALSE NEIGHBOUR: 'it returns false'. Refute it at one input. -/
def transferIntactWrong : ChangeSpec := { name := "transferIntact", fn := fun _ => fun
  | [d1, d2] => { results := [.lit (.bool false)], args := [d1, d2] }
  | _ => none }
def TransferIntactWrongFalsely : Prop := transferIntactRow.holds Try.pinned (OpenSpec.ofChange transferIntactWrong)

/-- 'hopmeshlaw48.TransferOnward': WHATEVER THE INPUT: true; the input reads as it did. -/
def transferOnwardSpec : ChangeSpec := { name := "transferOnward", fn := fun _ => fun
  | [d1, d2] => { results := [.lit (.bool true)], args := [d1, d2] }
  | _ => none }
def transferOnwardRow : OpenClaim := { program := "ytekkdoaakilafaa", sum := "e3e291198c99b85b2a6c14285188c9a2ff2ec9c37cd461b29f689e4e4a349cdf", func := "hopmesh/hopmeshlaw48.TransferOnward", spec := "transferOnward", inPlace := ["internal/abi.NoEscape", "internal/bytealg.MakeNoZero"], unfollowed := true, recurses := true, apart := false }
def TransferOnwardSaid : Prop := transferOnwardRow.holds Try.pinned (OpenSpec.ofChange transferOnwardSpec)

/-- ITS FALSE NEIGHBOUR: 'it returns false'. Refute it at one input. -/
def transferOnwardWrong : ChangeSpec := { name := "transferOnward", fn := fun _ => fun
  | [d1, d2] => { results := [.lit (.bool false)], args := [d1, d2] }
  | _ => none }
def TransferOnwardWrongFalsely : Prop := transferOnwardRow.holds Try.pinned (OpenSpec.ofChange transferOnwardWrong)

/-- 'hopmeshlaw48.TransferServes': WHATEVER THE INPUT: true; the input reads as it did. -/
def transferServesSpec : ChangeSpec := { name := "transferServes", fn := fun _ => fun
  | [d1, d2] => { results := [.lit (.bool true)], args := [d1, d2] }
  | _ => none }
def transferServesRow : OpenClaim := { program := "ytekkdoaakilafaa", sum := "e3e291198c99b85b2a6c14285188c9a2ff2ec9c37cd461b29f689e4e4a349cdf", func := "hopmesh/hopmeshlaw48.TransferServes", spec := "transferServes", inPlace := ["internal/abi.NoEscape", "internal/bytealg.MakeNoZero"], unfollowed := true, recurses := true, apart := false }
def TransferServesSaid : Prop := transferServesRow.holds Try.pinned (OpenSpec.ofChange transferServesSpec)

/-- ITS FALSE NEIGHBOUR: 'it returns false'. Refute it at one input. -/
def transferServesWrong : ChangeSpec := { name := "transferServes", fn := fun _ => fun
  | [d1, d2] => { results := [.lit (.bool false)], args := [d1, d2] }
  | _ => none }
def TransferServesWrongFalsely : Prop := transferServesRow.holds Try.pinned (OpenSpec.ofChange transferServesWrong)

/-- 'hopmeshtop.TopQuietWhenAgreed': WHATEVER THE INPUT: true; the input reads as it did. -/
def topQuietWhenAgreedSpec : ChangeSpec := { name := "topQuietWhenAgreed", fn := fun _ => fun
  | [d1, d2, d3] => { results := [.lit (.bool true)], args := [d1, d2, d3] }
  | _ => none }
def topQuietWhenAgreedRow : OpenClaim := { program := "ytekkdoaakilafaa", sum := "e3e291198c99b85b2a6c14285188c9a2ff2ec9c37cd461b29f689e4e4a349cdf", func := "hopmesh/hopmeshtop.TopQuietWhenAgreed", spec := "topQuietWhenAgreed", inPlace := ["internal/abi.NoEscape", "internal/bytealg.MakeNoZero"], unfollowed := true, recurses := true, apart := false }
def TopQuietWhenAgreedSaid : Prop := topQuietWhenAgreedRow.holds Try.pinned (OpenSpec.ofChange topQuietWhenAgreedSpec)

/-- ITS FALSE NEIGHBOUR: 'it returns false'. Refute it at one input. -/
def topQuietWhenAgreedWrong : ChangeSpec := { name := "topQuietWhenAgreed", fn := fun _ => fun
  | [d1, d2, d3] => { results := [.lit (.bool false)], args := [d1, d2, d3] }
  | _ => none }
def TopQuietWhenAgreedWrongFalsely : Prop := topQuietWhenAgreedRow.holds Try.pinned (OpenSpec.ofChange topQuietWhenAgreedWrong)

/- THE SECOND FORM. 'bulk': how many values and letters a reading holds, each counted each time it is reached (what is shared counts as often as it is met; a slice's spare places count too). A statement '..UptoSaid' is the law's where the arguments, and the package variables that the reading takes, are together of bulk at most 1048576: NARROWER than '..Said'. Prove '..Said' where nothing that the law and all that it calls make is longer than what came in: it says more and counts as full. Else prove '..UptoSaid'. A law counts once. -/
mutual
def uptoBulk {H : Type} : DataW H → Nat
  | .lit (.string bytes) => bytes.length + 1
  | .lit _ => 1
  | .nil => 1
  | .ptr d => uptoBulk d + 1
  | .slice elems spare => uptoBulkAll elems + uptoBulkAll spare + 1
  | .agg parts => uptoBulkAll parts + 1
  | .iface _ d => uptoBulk d + 1
  | .map entries => uptoBulkEntries entries + 1
  | .held _ => 1
def uptoBulkAll {H : Type} : List (DataW H) → Nat
  | [] => 0
  | d :: r => uptoBulk d + uptoBulkAll r
def uptoBulkEntries {H : Type} : List (Lit × DataW H) → Nat
  | [] => 0
  | x :: r => uptoBulkEntry x + uptoBulkEntries r
def uptoBulkEntry {H : Type} : Lit × DataW H → Nat
  | (.string bytes, d) => bytes.length + uptoBulk d + 1
  | (_, d) => uptoBulk d + 1
 end
def uptoSmall : (H : Type) → List (DataW H) → Bool := fun _ ds => decide (uptoBulkAll ds ≤ 1048576)
def OpenSpec.upto (s : _root_.Go.ChangeSpec) : _root_.Go.OpenSpec := { _root_.Go.OpenSpec.ofChange s with cond := some uptoSmall }

/-- 'hopmeshlaw48.TransferFull', WHERE WHAT IT READS IS OF BULK AT MOST 1048576: true; the input reads as it did. -/
def transferFullUptoRow : OpenClaim := { program := "ytekkdoaakilafaa", sum := "e3e291198c99b85b2a6c14285188c9a2ff2ec9c37cd461b29f689e4e4a349cdf", func := "hopmesh/hopmeshlaw48.TransferFull", spec := "transferFull", inPlace := ["internal/abi.NoEscape", "internal/bytealg.MakeNoZero"], unfollowed := true, recurses := true, apart := false, narrowed := true }
def TransferFullUptoSaid : Prop := transferFullUptoRow.holds Try.pinned (OpenSpec.upto transferFullSpec)

/-- 'hopmeshlaw48.TransferArrives', WHERE WHAT IT READS IS OF BULK AT MOST 1048576: true; the input reads as it did. -/
def transferArrivesUptoRow : OpenClaim := { program := "ytekkdoaakilafaa", sum := "e3e291198c99b85b2a6c14285188c9a2ff2ec9c37cd461b29f689e4e4a349cdf", func := "hopmesh/hopmeshlaw48.TransferArrives", spec := "transferArrives", inPlace := ["internal/abi.NoEscape", "internal/bytealg.MakeNoZero"], unfollowed := true, recurses := true, apart := false, narrowed := true }
def TransferArrivesUptoSaid : Prop := transferArrivesUptoRow.holds Try.pinned (OpenSpec.upto transferArrivesSpec)

/-- 'hopmeshlaw48.TransferForged', WHERE WHAT IT READS IS OF BULK AT MOST 1048576: true; the input reads as it did. -/
def transferForgedUptoRow : OpenClaim := { program := "ytekkdoaakilafaa", sum := "e3e291198c99b85b2a6c14285188c9a2ff2ec9c37cd461b29f689e4e4a349cdf", func := "hopmesh/hopmeshlaw48.TransferForged", spec := "transferForged", inPlace := ["internal/abi.NoEscape", "internal/bytealg.MakeNoZero"], unfollowed := true, recurses := true, apart := false, narrowed := true }
def TransferForgedUptoSaid : Prop := transferForgedUptoRow.holds Try.pinned (OpenSpec.upto transferForgedSpec)

/-- 'hopmeshlaw48.TransferIntact', WHERE WHAT IT READS IS OF BULK AT MOST 1048576: true; the input reads as it did. -/
def transferIntactUptoRow : OpenClaim := { program := "ytekkdoaakilafaa", sum := "e3e291198c99b85b2a6c14285188c9a2ff2ec9c37cd461b29f689e4e4a349cdf", func := "hopmesh/hopmeshlaw48.TransferIntact", spec := "transferIntact", inPlace := ["internal/abi.NoEscape", "internal/bytealg.MakeNoZero"], unfollowed := true, recurses := true, apart := false, narrowed := true }
def TransferIntactUptoSaid : Prop := transferIntactUptoRow.holds Try.pinned (OpenSpec.upto transferIntactSpec)

/-- 'hopmeshlaw48.TransferOnward', WHERE WHAT IT READS IS OF BULK AT MOST 1048576: true; the input reads as it did. -/
def transferOnwardUptoRow : OpenClaim := { program := "ytekkdoaakilafaa", sum := "e3e291198c99b85b2a6c14285188c9a2ff2ec9c37cd461b29f689e4e4a349cdf", func := "hopmesh/hopmeshlaw48.TransferOnward", spec := "transferOnward", inPlace := ["internal/abi.NoEscape", "internal/bytealg.MakeNoZero"], unfollowed := true, recurses := true, apart := false, narrowed := true }
def TransferOnwardUptoSaid : Prop := transferOnwardUptoRow.holds Try.pinned (OpenSpec.upto transferOnwardSpec)

/-- 'hopmeshlaw48.TransferServes', WHERE WHAT IT READS IS OF BULK AT MOST 1048576: true; the input reads as it did. -/
def transferServesUptoRow : OpenClaim := { program := "ytekkdoaakilafaa", sum := "e3e291198c99b85b2a6c14285188c9a2ff2ec9c37cd461b29f689e4e4a349cdf", func := "hopmesh/hopmeshlaw48.TransferServes", spec := "transferServes", inPlace := ["internal/abi.NoEscape", "internal/bytealg.MakeNoZero"], unfollowed := true, recurses := true, apart := false, narrowed := true }
def TransferServesUptoSaid : Prop := transferServesUptoRow.holds Try.pinned (OpenSpec.upto transferServesSpec)

/-- 'hopmeshtop.TopQuietWhenAgreed', WHERE WHAT IT READS IS OF BULK AT MOST 1048576: true; the input reads as it did. -/
def topQuietWhenAgreedUptoRow : OpenClaim := { program := "ytekkdoaakilafaa", sum := "e3e291198c99b85b2a6c14285188c9a2ff2ec9c37cd461b29f689e4e4a349cdf", func := "hopmesh/hopmeshtop.TopQuietWhenAgreed", spec := "topQuietWhenAgreed", inPlace := ["internal/abi.NoEscape", "internal/bytealg.MakeNoZero"], unfollowed := true, recurses := true, apart := false, narrowed := true }
def TopQuietWhenAgreedUptoSaid : Prop := topQuietWhenAgreedUptoRow.holds Try.pinned (OpenSpec.upto topQuietWhenAgreedSpec)

end Rows
end Go.Proofs.Ytekkdoaakilafaa
