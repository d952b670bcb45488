/-
  No cell of these rows narrows 'for every input' (looked for: loops, veiled, ifaces, maps, wideKeys, modest, calm, conditions, laid).
  DERIVED. THE GIVEN ROWS OF THIS SEAT. 8 by the template 'for every input the law returns true; each argument reads behind the call as it read before'; 0 by the template 'total and deterministic' (their statements: YtmmaolnjjjdecaaTotals.lean).
  GIVEN WITH THE SEED: the statements are not yours to turn. If you find one false, say at which input.
  Laid BY PROGRAM, IN A SANDBOX (cutbox-rows.mjs): the forced cells as the released guide's own fill.sh prints them over the translation 72187e06b59ac476… (all of the seat's roots in one cut). By AI agents, Wed Nov 11 2026. No macro, syntax, notation, axiom, sorry.
-/
import Derived.Test.YtmmaolnjjjdecaaChecked
import GoSem.Claim
import GoSem.ClaimJoined
import GoSem.ClaimMapViews
import Derived.JoinedTies
import Derived.KernelRfl
namespace Go.Proofs.Ytmmaolnjjjdecaa
/- THE CELL 'sum', in the pinned program and in every row, IS THE sha256 OF THE DUMP (.gsa) THAT YtmmaolnjjjdecaaProg.lean LOADS. Nothing in Lean hashes anything: it is a label: what it is worth is what the hold of that sum in a sandbox is worth. -/
noncomputable def Try.pinned : Pinned := { name := "ytmmaolnjjjdecaa", sum := "72187e06b59ac4763d5e3afcf4c8b3db8a73eed1c7f8efada1cad77cf2d7e042", checked := Try.checked }
namespace Rows
def none {H : Type} : Left H := { results := [], args := [] }

/-- 'hopmeshlaw02.BitioWrites': WHATEVER THE INPUT: true; the input reads as it did. -/
def bitioWritesSpec : ChangeSpec := { name := "bitioWrites", fn := fun _ => fun
  | [d] => { results := [.lit (.bool true)], args := [d] }
  | _ => none }
def bitioWritesRow : OpenClaim := { program := "ytmmaolnjjjdecaa", sum := "72187e06b59ac4763d5e3afcf4c8b3db8a73eed1c7f8efada1cad77cf2d7e042", func := "hopmesh/hopmeshlaw02.BitioWrites", spec := "bitioWrites", unfollowed := true, recurses := true, apart := false }
def BitioWritesSaid : Prop := bitioWritesRow.holds Try.pinned (OpenSpec.ofChange bitioWritesSpec)

/-- ITS FALSE NEIGHBOUR: 'it returns false'. Refute it at one input. -/
def bitioWritesWrong : ChangeSpec := { name := "bitioWrites", fn := fun _ => fun
  | [d] => { results := [.lit (.bool false)], args := [d] }
  | _ => none }
def BitioWritesWrongFalsely : Prop := bitioWritesRow.holds Try.pinned (OpenSpec.ofChange bitioWritesWrong)

/-- 'hopmeshlaw02.BitioStrict': WHATEVER THE INPUT: true; the input reads as it did. -/
def bitioStrictSpec : ChangeSpec := { name := "bitioStrict", fn := fun _ => fun
  | [d1, d2] => { results := [.lit (.bool true)], args := [d1, d2] }
  | _ => none }
def bitioStrictRow : OpenClaim := { program := "ytmmaolnjjjdecaa", sum := "72187e06b59ac4763d5e3afcf4c8b3db8a73eed1c7f8efada1cad77cf2d7e042", func := "hopmesh/hopmeshlaw02.BitioStrict", spec := "bitioStrict", unfollowed := true, recurses := true, apart := false }
def BitioStrictSaid : Prop := bitioStrictRow.holds Try.pinned (OpenSpec.ofChange bitioStrictSpec)

/-- ITS FALSE NEIGHBOUR: 'it returns false'. Refute it at one input. -/
def bitioStrictWrong : ChangeSpec := { name := "bitioStrict", fn := fun _ => fun
  | [d1, d2] => { results := [.lit (.bool false)], args := [d1, d2] }
  | _ => none }
def BitioStrictWrongFalsely : Prop := bitioStrictRow.holds Try.pinned (OpenSpec.ofChange bitioStrictWrong)

/-- 'hopmeshlaw02.BitioWidths': WHATEVER THE INPUT: true; the input reads as it did. -/
def bitioWidthsSpec : ChangeSpec := { name := "bitioWidths", fn := fun _ => fun
  | [d] => { results := [.lit (.bool true)], args := [d] }
  | _ => none }
def bitioWidthsRow : OpenClaim := { program := "ytmmaolnjjjdecaa", sum := "72187e06b59ac4763d5e3afcf4c8b3db8a73eed1c7f8efada1cad77cf2d7e042", func := "hopmesh/hopmeshlaw02.BitioWidths", spec := "bitioWidths", unfollowed := true, recurses := true, apart := false }
def BitioWidthsSaid : Prop := bitioWidthsRow.holds Try.pinned (OpenSpec.ofChange bitioWidthsSpec)

/-- ITS FALSE NEIGHBOUR: 'it returns false'. Refute it at one input. -/
def bitioWidthsWrong : ChangeSpec := { name := "bitioWidths", fn := fun _ => fun
  | [d] => { results := [.lit (.bool false)], args := [d] }
  | _ => none }
def BitioWidthsWrongFalsely : Prop := bitioWidthsRow.holds Try.pinned (OpenSpec.ofChange bitioWidthsWrong)

/-- 'hopmeshlaw02.BitioSigned': WHATEVER THE INPUT: true; the input reads as it did. -/
def bitioSignedSpec : ChangeSpec := { name := "bitioSigned", fn := fun _ => fun
  | [d1, d2] => { results := [.lit (.bool true)], args := [d1, d2] }
  | _ => none }
def bitioSignedRow : OpenClaim := { program := "ytmmaolnjjjdecaa", sum := "72187e06b59ac4763d5e3afcf4c8b3db8a73eed1c7f8efada1cad77cf2d7e042", func := "hopmesh/hopmeshlaw02.BitioSigned", spec := "bitioSigned", unfollowed := true, recurses := true, apart := false }
def BitioSignedSaid : Prop := bitioSignedRow.holds Try.pinned (OpenSpec.ofChange bitioSignedSpec)

/-- ITS FALSE NEIGHBOUR: 'it returns false'. Refute it at one input. -/
def bitioSignedWrong : ChangeSpec := { name := "bitioSigned", fn := fun _ => fun
  | [d1, d2] => { results := [.lit (.bool false)], args := [d1, d2] }
  | _ => none }
def BitioSignedWrongFalsely : Prop := bitioSignedRow.holds Try.pinned (OpenSpec.ofChange bitioSignedWrong)

/-- 'hopmeshlaw02.BitioReads': WHATEVER THE INPUT: true; the input reads as it did. -/
def bitioReadsSpec : ChangeSpec := { name := "bitioReads", fn := fun _ => fun
  | [d1, d2] => { results := [.lit (.bool true)], args := [d1, d2] }
  | _ => none }
def bitioReadsRow : OpenClaim := { program := "ytmmaolnjjjdecaa", sum := "72187e06b59ac4763d5e3afcf4c8b3db8a73eed1c7f8efada1cad77cf2d7e042", func := "hopmesh/hopmeshlaw02.BitioReads", spec := "bitioReads", unfollowed := true, recurses := true, apart := false }
def BitioReadsSaid : Prop := bitioReadsRow.holds Try.pinned (OpenSpec.ofChange bitioReadsSpec)

/-- ITS FALSE NEIGHBOUR: 'it returns false'. Refute it at one input. -/
def bitioReadsWrong : ChangeSpec := { name := "bitioReads", fn := fun _ => fun
  | [d1, d2] => { results := [.lit (.bool false)], args := [d1, d2] }
  | _ => none }
def BitioReadsWrongFalsely : Prop := bitioReadsRow.holds Try.pinned (OpenSpec.ofChange bitioReadsWrong)

/-- 'hopmeshlaw02.BitioBack': WHATEVER THE INPUT: true; the input reads as it did. -/
def bitioBackSpec : ChangeSpec := { name := "bitioBack", fn := fun _ => fun
  | [d] => { results := [.lit (.bool true)], args := [d] }
  | _ => none }
def bitioBackRow : OpenClaim := { program := "ytmmaolnjjjdecaa", sum := "72187e06b59ac4763d5e3afcf4c8b3db8a73eed1c7f8efada1cad77cf2d7e042", func := "hopmesh/hopmeshlaw02.BitioBack", spec := "bitioBack", unfollowed := true, recurses := true, apart := false }
def BitioBackSaid : Prop := bitioBackRow.holds Try.pinned (OpenSpec.ofChange bitioBackSpec)

/-- ITS FALSE NEIGHBOUR: 'it returns false'. Refute it at one input. -/
def bitioBackWrong : ChangeSpec := { name := "bitioBack", fn := fun _ => fun
  | [d] => { results := [.lit (.bool false)], args := [d] }
  | _ => none }
def BitioBackWrongFalsely : Prop := bitioBackRow.holds Try.pinned (OpenSpec.ofChange bitioBackWrong)

/-- 'hopmeshlaw02.BitioStops': WHATEVER THE INPUT: true; the input reads as it did. -/
def bitioStopsSpec : ChangeSpec := { name := "bitioStops", fn := fun _ => fun
  | [d1, d2] => { results := [.lit (.bool true)], args := [d1, d2] }
  | _ => none }
def bitioStopsRow : OpenClaim := { program := "ytmmaolnjjjdecaa", sum := "72187e06b59ac4763d5e3afcf4c8b3db8a73eed1c7f8efada1cad77cf2d7e042", func := "hopmesh/hopmeshlaw02.BitioStops", spec := "bitioStops", unfollowed := true, recurses := true, apart := false }
def BitioStopsSaid : Prop := bitioStopsRow.holds Try.pinned (OpenSpec.ofChange bitioStopsSpec)

/-- ITS FALSE NEIGHBOUR: 'it returns false'. Refute it at one input. -/
def bitioStopsWrong : ChangeSpec := { name := "bitioStops", fn := fun _ => fun
  | [d1, d2] => { results := [.lit (.bool false)], args := [d1, d2] }
  | _ => none }
def BitioStopsWrongFalsely : Prop := bitioStopsRow.holds Try.pinned (OpenSpec.ofChange bitioStopsWrong)

/-- 'hopmeshlaw02.BitioFull': WHATEVER THE INPUT: true; the input reads as it did. -/
def bitioFullSpec : ChangeSpec := { name := "bitioFull", fn := fun _ => fun
  | [d] => { results := [.lit (.bool true)], args := [d] }
  | _ => none }
def bitioFullRow : OpenClaim := { program := "ytmmaolnjjjdecaa", sum := "72187e06b59ac4763d5e3afcf4c8b3db8a73eed1c7f8efada1cad77cf2d7e042", func := "hopmesh/hopmeshlaw02.BitioFull", spec := "bitioFull", unfollowed := true, recurses := true, apart := false }
def BitioFullSaid : Prop := bitioFullRow.holds Try.pinned (OpenSpec.ofChange bitioFullSpec)

/-- ITS FALSE NEIGHBOUR: 'it returns false'. Refute it at one input. -/
def bitioFullWrong : ChangeSpec := { name := "bitioFull", fn := fun _ => fun
  | [d] => { results := [.lit (.bool false)], args := [d] }
  | _ => none }
def BitioFullWrongFalsely : Prop := bitioFullRow.holds Try.pinned (OpenSpec.ofChange bitioFullWrong)

/- THE SECOND FORM. 'bulk': how many values and letters a reading holds, each counted each time it is reached (what is shared counts as often as it is met; a slice's spare places count too). A statement '..UptoSaid' is the law's where the arguments, and the package variables that the reading takes, are together of bulk at most 1048576: NARROWER than '..Said'. Prove '..Said' where nothing that the law and all that it calls make is longer than what came in: it says more and counts as full. Else prove '..UptoSaid'. A law counts once. -/
mutual
def uptoBulk {H : Type} : DataW H → Nat
  | .lit (.string bytes) => bytes.length + 1
  | .lit _ => 1
  | .nil => 1
  | .ptr d => uptoBulk d + 1
  | .slice elems spare => uptoBulkAll elems + uptoBulkAll spare + 1
  | .agg parts => uptoBulkAll parts + 1
  | .iface _ d => uptoBulk d + 1
  | .map entries => uptoBulkEntries entries + 1
  | .held _ => 1
def uptoBulkAll {H : Type} : List (DataW H) → Nat
  | [] => 0
  | d :: r => uptoBulk d + uptoBulkAll r
def uptoBulkEntries {H : Type} : List (Lit × DataW H) → Nat
  | [] => 0
  | x :: r => uptoBulkEntry x + uptoBulkEntries r
def uptoBulkEntry {H : Type} : Lit × DataW H → Nat
  | (.string bytes, d) => bytes.length + uptoBulk d + 1
  | (_, d) => uptoBulk d + 1
 end
def uptoSmall : (H : Type) → List (DataW H) → Bool := fun _ ds => decide (uptoBulkAll ds ≤ 1048576)
def OpenSpec.upto (s : _root_.Go.ChangeSpec) : _root_.Go.OpenSpec := { _root_.Go.OpenSpec.ofChange s with cond := some uptoSmall }

/-- 'hopmeshlaw02.BitioWrites', WHERE WHAT IT READS IS OF BULK AT MOST 1048576: true; the input reads as it did. -/
def bitioWritesUptoRow : OpenClaim := { program := "ytmmaolnjjjdecaa", sum := "72187e06b59ac4763d5e3afcf4c8b3db8a73eed1c7f8efada1cad77cf2d7e042", func := "hopmesh/hopmeshlaw02.BitioWrites", spec := "bitioWrites", unfollowed := true, recurses := true, apart := false, narrowed := true }
def BitioWritesUptoSaid : Prop := bitioWritesUptoRow.holds Try.pinned (OpenSpec.upto bitioWritesSpec)

/-- 'hopmeshlaw02.BitioStrict', WHERE WHAT IT READS IS OF BULK AT MOST 1048576: true; the input reads as it did. -/
def bitioStrictUptoRow : OpenClaim := { program := "ytmmaolnjjjdecaa", sum := "72187e06b59ac4763d5e3afcf4c8b3db8a73eed1c7f8efada1cad77cf2d7e042", func := "hopmesh/hopmeshlaw02.BitioStrict", spec := "bitioStrict", unfollowed := true, recurses := true, apart := false, narrowed := true }
def BitioStrictUptoSaid : Prop := bitioStrictUptoRow.holds Try.pinned (OpenSpec.upto bitioStrictSpec)

/-- 'hopmeshlaw02.BitioWidths', WHERE WHAT IT READS IS OF BULK AT MOST 1048576: true; the input reads as it did. -/
def bitioWidthsUptoRow : OpenClaim := { program := "ytmmaolnjjjdecaa", sum := "72187e06b59ac4763d5e3afcf4c8b3db8a73eed1c7f8efada1cad77cf2d7e042", func := "hopmesh/hopmeshlaw02.BitioWidths", spec := "bitioWidths", unfollowed := true, recurses := true, apart := false, narrowed := true }
def BitioWidthsUptoSaid : Prop := bitioWidthsUptoRow.holds Try.pinned (OpenSpec.upto bitioWidthsSpec)

/-- 'hopmeshlaw02.BitioSigned', WHERE WHAT IT READS IS OF BULK AT MOST 1048576: true; the input reads as it did. -/
def bitioSignedUptoRow : OpenClaim := { program := "ytmmaolnjjjdecaa", sum := "72187e06b59ac4763d5e3afcf4c8b3db8a73eed1c7f8efada1cad77cf2d7e042", func := "hopmesh/hopmeshlaw02.BitioSigned", spec := "bitioSigned", unfollowed := true, recurses := true, apart := false, narrowed := true }
def BitioSignedUptoSaid : Prop := bitioSignedUptoRow.holds Try.pinned (OpenSpec.upto bitioSignedSpec)

/-- 'hopmeshlaw02.BitioReads', WHERE WHAT IT READS IS OF BULK AT MOST 1048576: true; the input reads as it did. -/
def bitioReadsUptoRow : OpenClaim := { program := "ytmmaolnjjjdecaa", sum := "72187e06b59ac4763d5e3afcf4c8b3db8a73eed1c7f8efada1cad77cf2d7e042", func := "hopmesh/hopmeshlaw02.BitioReads", spec := "bitioReads", unfollowed := true, recurses := true, apart := false, narrowed := true }
def BitioReadsUptoSaid : Prop := bitioReadsUptoRow.holds Try.pinned (OpenSpec.upto bitioReadsSpec)

/-- 'hopmeshlaw02.BitioBack', WHERE WHAT IT READS IS OF BULK AT MOST 1048576: true; the input reads as it did. -/
def bitioBackUptoRow : OpenClaim := { program := "ytmmaolnjjjdecaa", sum := "72187e06b59ac4763d5e3afcf4c8b3db8a73eed1c7f8efada1cad77cf2d7e042", func := "hopmesh/hopmeshlaw02.BitioBack", spec := "bitioBack", unfollowed := true, recurses := true, apart := false, narrowed := true }
def BitioBackUptoSaid : Prop := bitioBackUptoRow.holds Try.pinned (OpenSpec.upto bitioBackSpec)

/-- 'hopmeshlaw02.BitioStops', WHERE WHAT IT READS IS OF BULK AT MOST 1048576: true; the input reads as it did. -/
def bitioStopsUptoRow : OpenClaim := { program := "ytmmaolnjjjdecaa", sum := "72187e06b59ac4763d5e3afcf4c8b3db8a73eed1c7f8efada1cad77cf2d7e042", func := "hopmesh/hopmeshlaw02.BitioStops", spec := "bitioStops", unfollowed := true, recurses := true, apart := false, narrowed := true }
def BitioStopsUptoSaid : Prop := bitioStopsUptoRow.holds Try.pinned (OpenSpec.upto bitioStopsSpec)

/-- 'hopmeshlaw02.BitioFull', WHERE WHAT IT READS IS OF BULK AT MOST 1048576: true; the input reads as it did. -/
def bitioFullUptoRow : OpenClaim := { program := "ytmmaolnjjjdecaa", sum := "72187e06b59ac4763d5e3afcf4c8b3db8a73eed1c7f8efada1cad77cf2d7e042", func := "hopmesh/hopmeshlaw02.BitioFull", spec := "bitioFull", unfollowed := true, recurses := true, apart := false, narrowed := true }
def BitioFullUptoSaid : Prop := bitioFullUptoRow.holds Try.pinned (OpenSpec.upto bitioFullSpec)

end Rows
end Go.Proofs.Ytmmaolnjjjdecaa
