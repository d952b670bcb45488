/-
  No cell of these rows narrows 'for every input' (looked for: loops, veiled, ifaces, maps, wideKeys, modest, calm, conditions, laid).
  DERIVED. THE GIVEN ROWS OF THIS SEAT. 8 by the template 'for every input the law returns true; each argument reads behind the call as it read before'; 0 by the template 'total and deterministic' (their statements: YtfabgdignlfihaaTotals.lean).
  GIVEN WITH THE SEED: the statements are not yours to turn. If you find one false, say at which input.
  Laid BY PROGRAM, IN A SANDBOX (cutbox-rows.mjs): the forced cells as the released guide's own fill.sh prints them over the translation da8c96eb27027601… (all of the seat's roots in one cut). By AI agents, Wed Nov 11 2026. No macro, syntax, notation, axiom, sorry.
-/
import Derived.Test.YtfabgdignlfihaaChecked
import GoSem.Claim
import GoSem.ClaimJoined
import GoSem.ClaimMapViews
import Derived.JoinedTies
import Derived.KernelRfl
namespace Go.Proofs.Ytfabgdignlfihaa
/- THE CELL 'sum', in the pinned program and in every row, IS THE sha256 OF THE DUMP (.gsa) THAT YtfabgdignlfihaaProg.lean LOADS. Nothing in Lean hashes anything: it is a label: what it is worth is what the hold of that sum in a sandbox is worth. -/
noncomputable def Try.pinned : Pinned := { name := "ytfabgdignlfihaa", sum := "da8c96eb27027601f8b662070214f06f2df384838ddd2ad4d6b805e9cb0967d7", checked := Try.checked }
namespace Rows
def none {H : Type} : Left H := { results := [], args := [] }

/-- 'hopmeshlaw20.BeaconOffers': WHATEVER THE INPUT: true; the input reads as it did. -/
def beaconOffersSpec : ChangeSpec := { name := "beaconOffers", fn := fun _ => fun
  | [d] => { results := [.lit (.bool true)], args := [d] }
  | _ => none }
def beaconOffersRow : OpenClaim := { program := "ytfabgdignlfihaa", sum := "da8c96eb27027601f8b662070214f06f2df384838ddd2ad4d6b805e9cb0967d7", func := "hopmesh/hopmeshlaw20.BeaconOffers", spec := "beaconOffers", unfollowed := true, recurses := true, apart := false }
def BeaconOffersSaid : Prop := beaconOffersRow.holds Try.pinned (OpenSpec.ofChange beaconOffersSpec)

/-- ITS FALSE NEIGHBOUR: 'it returns false'. Refute it at one input. -/
def beaconOffersWrong : ChangeSpec := { name := "beaconOffers", fn := fun _ => fun
  | [d] => { results := [.lit (.bool false)], args := [d] }
  | _ => none }
def BeaconOffersWrongFalsely : Prop := beaconOffersRow.holds Try.pinned (OpenSpec.ofChange beaconOffersWrong)

/-- 'hopmeshlaw20.BeaconTurns': WHATEVER THE INPUT: true; the input reads as it did. -/
def beaconTurnsSpec : ChangeSpec := { name := "beaconTurns", fn := fun _ => fun
  | [d1, d2, d3] => { results := [.lit (.bool true)], args := [d1, d2, d3] }
  | _ => none }
def beaconTurnsRow : OpenClaim := { program := "ytfabgdignlfihaa", sum := "da8c96eb27027601f8b662070214f06f2df384838ddd2ad4d6b805e9cb0967d7", func := "hopmesh/hopmeshlaw20.BeaconTurns", spec := "beaconTurns", unfollowed := true, recurses := true, apart := false }
def BeaconTurnsSaid : Prop := beaconTurnsRow.holds Try.pinned (OpenSpec.ofChange beaconTurnsSpec)

/-- ITS FALSE NEIGHBOUR: 'it returns false'. Refute it at one input. -/
def beaconTurnsWrong : ChangeSpec := { name := "beaconTurns", fn := fun _ => fun
  | [d1, d2, d3] => { results := [.lit (.bool false)], args := [d1, d2, d3] }
  | _ => none }
def BeaconTurnsWrongFalsely : Prop := beaconTurnsRow.holds Try.pinned (OpenSpec.ofChange beaconTurnsWrong)

/-- 'hopmeshlaw20.BeaconApart': WHATEVER THE INPUT: true; the input reads as it did. -/
def beaconApartSpec : ChangeSpec := { name := "beaconApart", fn := fun _ => fun
  | [d1, d2, d3, d4, d5] => { results := [.lit (.bool true)], args := [d1, d2, d3, d4, d5] }
  | _ => none }
def beaconApartRow : OpenClaim := { program := "ytfabgdignlfihaa", sum := "da8c96eb27027601f8b662070214f06f2df384838ddd2ad4d6b805e9cb0967d7", func := "hopmesh/hopmeshlaw20.BeaconApart", spec := "beaconApart", unfollowed := true, recurses := true, apart := false }
def BeaconApartSaid : Prop := beaconApartRow.holds Try.pinned (OpenSpec.ofChange beaconApartSpec)

/-- ITS FALSE NEIGHBOUR: 'it returns false'. Refute it at one input. -/
def beaconApartWrong : ChangeSpec := { name := "beaconApart", fn := fun _ => fun
  | [d1, d2, d3, d4, d5] => { results := [.lit (.bool false)], args := [d1, d2, d3, d4, d5] }
  | _ => none }
def BeaconApartWrongFalsely : Prop := beaconApartRow.holds Try.pinned (OpenSpec.ofChange beaconApartWrong)

/-- 'hopmeshlaw20.BeaconEach': WHATEVER THE INPUT: true; the input reads as it did. -/
def beaconEachSpec : ChangeSpec := { name := "beaconEach", fn := fun _ => fun
  | [d1, d2, d3, d4] => { results := [.lit (.bool true)], args := [d1, d2, d3, d4] }
  | _ => none }
def beaconEachRow : OpenClaim := { program := "ytfabgdignlfihaa", sum := "da8c96eb27027601f8b662070214f06f2df384838ddd2ad4d6b805e9cb0967d7", func := "hopmesh/hopmeshlaw20.BeaconEach", spec := "beaconEach", unfollowed := true, recurses := true, apart := false }
def BeaconEachSaid : Prop := beaconEachRow.holds Try.pinned (OpenSpec.ofChange beaconEachSpec)

/-- ITS FALSE NEIGHBOUR: 'it returns false'. Refute it at one input. -/
def beaconEachWrong : ChangeSpec := { name := "beaconEach", fn := fun _ => fun
  | [d1, d2, d3, d4] => { results := [.lit (.bool false)], args := [d1, d2, d3, d4] }
  | _ => none }
def BeaconEachWrongFalsely : Prop := beaconEachRow.holds Try.pinned (OpenSpec.ofChange beaconEachWrong)

/-- 'hopmeshlaw20.BeaconReads': WHATEVER THE INPUT: true; the input reads as it did. -/
def beaconReadsSpec : ChangeSpec := { name := "beaconReads", fn := fun _ => fun
  | [d] => { results := [.lit (.bool true)], args := [d] }
  | _ => none }
def beaconReadsRow : OpenClaim := { program := "ytfabgdignlfihaa", sum := "da8c96eb27027601f8b662070214f06f2df384838ddd2ad4d6b805e9cb0967d7", func := "hopmesh/hopmeshlaw20.BeaconReads", spec := "beaconReads", unfollowed := true, recurses := true, apart := false }
def BeaconReadsSaid : Prop := beaconReadsRow.holds Try.pinned (OpenSpec.ofChange beaconReadsSpec)

/-- ITS FALSE NEIGHBOUR: 'it returns false'. Refute it at one input. -/
def beaconReadsWrong : ChangeSpec := { name := "beaconReads", fn := fun _ => fun
  | [d] => { results := [.lit (.bool false)], args := [d] }
  | _ => none }
def BeaconReadsWrongFalsely : Prop := beaconReadsRow.holds Try.pinned (OpenSpec.ofChange beaconReadsWrong)

/-- 'hopmeshlaw20.BeaconOrder': WHATEVER THE INPUT: true; the input reads as it did. -/
def beaconOrderSpec : ChangeSpec := { name := "beaconOrder", fn := fun _ => fun
  | [d1, d2, d3] => { results := [.lit (.bool true)], args := [d1, d2, d3] }
  | _ => none }
def beaconOrderRow : OpenClaim := { program := "ytfabgdignlfihaa", sum := "da8c96eb27027601f8b662070214f06f2df384838ddd2ad4d6b805e9cb0967d7", func := "hopmesh/hopmeshlaw20.BeaconOrder", spec := "beaconOrder", unfollowed := true, recurses := true, apart := false }
def BeaconOrderSaid : Prop := beaconOrderRow.holds Try.pinned (OpenSpec.ofChange beaconOrderSpec)

/-- ITS FALSE NEIGHBOUR: 'it returns false'. Refute it at one input. -/
def beaconOrderWrong : ChangeSpec := { name := "beaconOrder", fn := fun _ => fun
  | [d1, d2, d3] => { results := [.lit (.bool false)], args := [d1, d2, d3] }
  | _ => none }
def BeaconOrderWrongFalsely : Prop := beaconOrderRow.holds Try.pinned (OpenSpec.ofChange beaconOrderWrong)

/-- 'hopmeshlaw20.BeaconBack': WHATEVER THE INPUT: true; the input reads as it did. -/
def beaconBackSpec : ChangeSpec := { name := "beaconBack", fn := fun _ => fun
  | [d1, d2, d3, d4] => { results := [.lit (.bool true)], args := [d1, d2, d3, d4] }
  | _ => none }
def beaconBackRow : OpenClaim := { program := "ytfabgdignlfihaa", sum := "da8c96eb27027601f8b662070214f06f2df384838ddd2ad4d6b805e9cb0967d7", func := "hopmesh/hopmeshlaw20.BeaconBack", spec := "beaconBack", unfollowed := true, recurses := true, apart := false }
def BeaconBackSaid : Prop := beaconBackRow.holds Try.pinned (OpenSpec.ofChange beaconBackSpec)

/-- ITS FALSE NEIGHBOUR: 'it returns false'. Refute it at one input. -/
def beaconBackWrong : ChangeSpec := { name := "beaconBack", fn := fun _ => fun
  | [d1, d2, d3, d4] => { results := [.lit (.bool false)], args := [d1, d2, d3, d4] }
  | _ => none }
def BeaconBackWrongFalsely : Prop := beaconBackRow.holds Try.pinned (OpenSpec.ofChange beaconBackWrong)

/-- 'hopmeshlaw20.BeaconFrames': WHATEVER THE INPUT: true; the input reads as it did. -/
def beaconFramesSpec : ChangeSpec := { name := "beaconFrames", fn := fun _ => fun
  | [d1, d2, d3, d4, d5, d6, d7] => { results := [.lit (.bool true)], args := [d1, d2, d3, d4, d5, d6, d7] }
  | _ => none }
def beaconFramesRow : OpenClaim := { program := "ytfabgdignlfihaa", sum := "da8c96eb27027601f8b662070214f06f2df384838ddd2ad4d6b805e9cb0967d7", func := "hopmesh/hopmeshlaw20.BeaconFrames", spec := "beaconFrames", unfollowed := true, recurses := true, apart := false }
def BeaconFramesSaid : Prop := beaconFramesRow.holds Try.pinned (OpenSpec.ofChange beaconFramesSpec)

/-- ITS FALSE NEIGHBOUR: 'it returns false'. Refute it at one input. -/
def beaconFramesWrong : ChangeSpec := { name := "beaconFrames", fn := fun _ => fun
  | [d1, d2, d3, d4, d5, d6, d7] => { results := [.lit (.bool false)], args := [d1, d2, d3, d4, d5, d6, d7] }
  | _ => none }
def BeaconFramesWrongFalsely : Prop := beaconFramesRow.holds Try.pinned (OpenSpec.ofChange beaconFramesWrong)

/- THE SECOND FORM. 'bulk': how many values and letters a reading holds, each counted each time it is reached (what is shared counts as often as it is met; a slice's spare places count too). A statement '..UptoSaid' is the law's where the arguments, and the package variables that the reading takes, are together of bulk at most 1048576: NARROWER than '..Said'. Prove '..Said' where nothing that the law and all that it calls make is longer than what came in: it says more and counts as full. Else prove '..UptoSaid'. A law counts once. -/
mutual
def uptoBulk {H : Type} : DataW H → Nat
  | .lit (.string bytes) => bytes.length + 1
  | .lit _ => 1
  | .nil => 1
  | .ptr d => uptoBulk d + 1
  | .slice elems spare => uptoBulkAll elems + uptoBulkAll spare + 1
  | .agg parts => uptoBulkAll parts + 1
  | .iface _ d => uptoBulk d + 1
  | .map entries => uptoBulkEntries entries + 1
  | .held _ => 1
def uptoBulkAll {H : Type} : List (DataW H) → Nat
  | [] => 0
  | d :: r => uptoBulk d + uptoBulkAll r
def uptoBulkEntries {H : Type} : List (Lit × DataW H) → Nat
  | [] => 0
  | x :: r => uptoBulkEntry x + uptoBulkEntries r
def uptoBulkEntry {H : Type} : Lit × DataW H → Nat
  | (.string bytes, d) => bytes.length + uptoBulk d + 1
  | (_, d) => uptoBulk d + 1
 end
def uptoSmall : (H : Type) → List (DataW H) → Bool := fun _ ds => decide (uptoBulkAll ds ≤ 1048576)
def OpenSpec.upto (s : _root_.Go.ChangeSpec) : _root_.Go.OpenSpec := { _root_.Go.OpenSpec.ofChange s with cond := some uptoSmall }

/-- 'hopmeshlaw20.BeaconOffers', WHERE WHAT IT READS IS OF BULK AT MOST 1048576: true; the input reads as it did. -/
def beaconOffersUptoRow : OpenClaim := { program := "ytfabgdignlfihaa", sum := "da8c96eb27027601f8b662070214f06f2df384838ddd2ad4d6b805e9cb0967d7", func := "hopmesh/hopmeshlaw20.BeaconOffers", spec := "beaconOffers", unfollowed := true, recurses := true, apart := false, narrowed := true }
def BeaconOffersUptoSaid : Prop := beaconOffersUptoRow.holds Try.pinned (OpenSpec.upto beaconOffersSpec)

/-- 'hopmeshlaw20.BeaconTurns', WHERE WHAT IT READS IS OF BULK AT MOST 1048576: true; the input reads as it did. -/
def beaconTurnsUptoRow : OpenClaim := { program := "ytfabgdignlfihaa", sum := "da8c96eb27027601f8b662070214f06f2df384838ddd2ad4d6b805e9cb0967d7", func := "hopmesh/hopmeshlaw20.BeaconTurns", spec := "beaconTurns", unfollowed := true, recurses := true, apart := false, narrowed := true }
def BeaconTurnsUptoSaid : Prop := beaconTurnsUptoRow.holds Try.pinned (OpenSpec.upto beaconTurnsSpec)

/-- 'hopmeshlaw20.BeaconApart', WHERE WHAT IT READS IS OF BULK AT MOST 1048576: true; the input reads as it did. -/
def beaconApartUptoRow : OpenClaim := { program := "ytfabgdignlfihaa", sum := "da8c96eb27027601f8b662070214f06f2df384838ddd2ad4d6b805e9cb0967d7", func := "hopmesh/hopmeshlaw20.BeaconApart", spec := "beaconApart", unfollowed := true, recurses := true, apart := false, narrowed := true }
def BeaconApartUptoSaid : Prop := beaconApartUptoRow.holds Try.pinned (OpenSpec.upto beaconApartSpec)

/-- 'hopmeshlaw20.BeaconEach', WHERE WHAT IT READS IS OF BULK AT MOST 1048576: true; the input reads as it did. -/
def beaconEachUptoRow : OpenClaim := { program := "ytfabgdignlfihaa", sum := "da8c96eb27027601f8b662070214f06f2df384838ddd2ad4d6b805e9cb0967d7", func := "hopmesh/hopmeshlaw20.BeaconEach", spec := "beaconEach", unfollowed := true, recurses := true, apart := false, narrowed := true }
def BeaconEachUptoSaid : Prop := beaconEachUptoRow.holds Try.pinned (OpenSpec.upto beaconEachSpec)

/-- 'hopmeshlaw20.BeaconReads', WHERE WHAT IT READS IS OF BULK AT MOST 1048576: true; the input reads as it did. -/
def beaconReadsUptoRow : OpenClaim := { program := "ytfabgdignlfihaa", sum := "da8c96eb27027601f8b662070214f06f2df384838ddd2ad4d6b805e9cb0967d7", func := "hopmesh/hopmeshlaw20.BeaconReads", spec := "beaconReads", unfollowed := true, recurses := true, apart := false, narrowed := true }
def BeaconReadsUptoSaid : Prop := beaconReadsUptoRow.holds Try.pinned (OpenSpec.upto beaconReadsSpec)

/-- 'hopmeshlaw20.BeaconOrder', WHERE WHAT IT READS IS OF BULK AT MOST 1048576: true; the input reads as it did. -/
def beaconOrderUptoRow : OpenClaim := { program := "ytfabgdignlfihaa", sum := "da8c96eb27027601f8b662070214f06f2df384838ddd2ad4d6b805e9cb0967d7", func := "hopmesh/hopmeshlaw20.BeaconOrder", spec := "beaconOrder", unfollowed := true, recurses := true, apart := false, narrowed := true }
def BeaconOrderUptoSaid : Prop := beaconOrderUptoRow.holds Try.pinned (OpenSpec.upto beaconOrderSpec)

/-- 'hopmeshlaw20.BeaconBack', WHERE WHAT IT READS IS OF BULK AT MOST 1048576: true; the input reads as it did. -/
def beaconBackUptoRow : OpenClaim := { program := "ytfabgdignlfihaa", sum := "da8c96eb27027601f8b662070214f06f2df384838ddd2ad4d6b805e9cb0967d7", func := "hopmesh/hopmeshlaw20.BeaconBack", spec := "beaconBack", unfollowed := true, recurses := true, apart := false, narrowed := true }
def BeaconBackUptoSaid : Prop := beaconBackUptoRow.holds Try.pinned (OpenSpec.upto beaconBackSpec)

/-- 'hopmeshlaw20.BeaconFrames', WHERE WHAT IT READS IS OF BULK AT MOST 1048576: true; the input reads as it did. -/
def beaconFramesUptoRow : OpenClaim := { program := "ytfabgdignlfihaa", sum := "da8c96eb27027601f8b662070214f06f2df384838ddd2ad4d6b805e9cb0967d7", func := "hopmesh/hopmeshlaw20.BeaconFrames", spec := "beaconFrames", unfollowed := true, recurses := true, apart := false, narrowed := true }
def BeaconFramesUptoSaid : Prop := beaconFramesUptoRow.holds Try.pinned (OpenSpec.upto beaconFramesSpec)

end Rows
end Go.Proofs.Ytfabgdignlfihaa
