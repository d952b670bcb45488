/-
  No cell of these rows narrows 'for every input' (looked for: loops, veiled, ifaces, maps, wideKeys, modest, calm, conditions, laid).
  DERIVED. THE GIVEN ROWS OF THIS SEAT. 6 by the template 'for every input the law returns true; each argument reads behind the call as it read before'; 0 by the template 'total and deterministic' (their statements: YtcojimifplhodaaTotals.lean).
  GIVEN WITH THE SEED: the statements are not yours to turn. If you find one false, say at which input.
  Laid BY PROGRAM, IN A SANDBOX (cutbox-rows.mjs): the forced cells as the released guide's own fill.sh prints them over the translation ca23fd50b2964b20… (all of the seat's roots in one cut). By AI agents, Wed Nov 11 2026. No macro, syntax, notation, axiom, sorry.
-/
import Derived.Test.YtcojimifplhodaaChecked
import GoSem.Claim
import GoSem.ClaimJoined
import GoSem.ClaimMapViews
import Derived.JoinedTies
import Derived.KernelRfl
namespace Go.Proofs.Ytcojimifplhodaa
/- THE CELL 'sum', in the pinned program and in every row, IS THE sha256 OF THE DUMP (.gsa) THAT YtcojimifplhodaaProg.lean LOADS. Nothing in Lean hashes anything: it is a label: what it is worth is what the hold of that sum in a sandbox is worth. -/
noncomputable def Try.pinned : Pinned := { name := "ytcojimifplhodaa", sum := "ca23fd50b2964b202542c121a814f3d90c4ef0a9560bb1bc162a333a0e83e72c", checked := Try.checked }
namespace Rows
def none {H : Type} : Left H := { results := [], args := [] }

/-- 'hopmeshlaw47.GossipRuns': WHATEVER THE INPUT: true; the input reads as it did. -/
def gossipRunsSpec : ChangeSpec := { name := "gossipRuns", fn := fun _ => fun
  | [d1, d2, d3, d4] => { results := [.lit (.bool true)], args := [d1, d2, d3, d4] }
  | _ => none }
def gossipRunsRow : OpenClaim := { program := "ytcojimifplhodaa", sum := "ca23fd50b2964b202542c121a814f3d90c4ef0a9560bb1bc162a333a0e83e72c", func := "hopmesh/hopmeshlaw47.GossipRuns", spec := "gossipRuns", unfollowed := true, recurses := true, apart := false }
def GossipRunsSaid : Prop := gossipRunsRow.holds Try.pinned (OpenSpec.ofChange gossipRunsSpec)

/-- ITS FALSE NEIGHBOUR: 'it returns false'. Refute it at one input. -/
def gossipRunsWrong : ChangeSpec := { name := "gossipRuns", fn := fun _ => fun
  | [d1, d2, d3, d4] => { results := [.lit (.bool false)], args := [d1, d2, d3, d4] }
  | _ => none }
def GossipRunsWrongFalsely : Prop := gossipRunsRow.holds Try.pinned (OpenSpec.ofChange gossipRunsWrong)

/-- 'hopmeshlaw47.GossipOnce': WHATEVER THE INPUT: true; the input reads as it did. -/
def gossipOnceSpec : ChangeSpec := { name := "gossipOnce", fn := fun _ => fun
  | [d1, d2, d3, d4] => { results := [.lit (.bool true)], args := [d1, d2, d3, d4] }
  | _ => none }
def gossipOnceRow : OpenClaim := { program := "ytcojimifplhodaa", sum := "ca23fd50b2964b202542c121a814f3d90c4ef0a9560bb1bc162a333a0e83e72c", func := "hopmesh/hopmeshlaw47.GossipOnce", spec := "gossipOnce", unfollowed := true, recurses := true, apart := false }
def GossipOnceSaid : Prop := gossipOnceRow.holds Try.pinned (OpenSpec.ofChange gossipOnceSpec)

/-- ITS FALSE NEIGHBOUR: 'it returns false'. Refute it at one input. -/
def gossipOnceWrong : ChangeSpec := { name := "gossipOnce", fn := fun _ => fun
  | [d1, d2, d3, d4] => { results := [.lit (.bool false)], args := [d1, d2, d3, d4] }
  | _ => none }
def GossipOnceWrongFalsely : Prop := gossipOnceRow.holds Try.pinned (OpenSpec.ofChange gossipOnceWrong)

/-- 'hopmeshlaw47.GossipSpeaks': WHATEVER THE INPUT: true; the input reads as it did. -/
def gossipSpeaksSpec : ChangeSpec := { name := "gossipSpeaks", fn := fun _ => fun
  | [d1, d2, d3] => { results := [.lit (.bool true)], args := [d1, d2, d3] }
  | _ => none }
def gossipSpeaksRow : OpenClaim := { program := "ytcojimifplhodaa", sum := "ca23fd50b2964b202542c121a814f3d90c4ef0a9560bb1bc162a333a0e83e72c", func := "hopmesh/hopmeshlaw47.GossipSpeaks", spec := "gossipSpeaks", unfollowed := true, recurses := true, apart := false }
def GossipSpeaksSaid : Prop := gossipSpeaksRow.holds Try.pinned (OpenSpec.ofChange gossipSpeaksSpec)

/-- ITS FALSE NEIGHBOUR: 'it returns false'. Refute it at one input. -/
def gossipSpeaksWrong : ChangeSpec := { name := "gossipSpeaks", fn := fun _ => fun
  | [d1, d2, d3] => { results := [.lit (.bool false)], args := [d1, d2, d3] }
  | _ => none }
def GossipSpeaksWrongFalsely : Prop := gossipSpeaksRow.holds Try.pinned (OpenSpec.ofChange gossipSpeaksWrong)

/-- 'hopmeshlaw47.GossipQuick': WHATEVER THE INPUT: true; the input reads as it did. -/
def gossipQuickSpec : ChangeSpec := { name := "gossipQuick", fn := fun _ => fun
  | [d1, d2, d3, d4] => { results := [.lit (.bool true)], args := [d1, d2, d3, d4] }
  | _ => none }
def gossipQuickRow : OpenClaim := { program := "ytcojimifplhodaa", sum := "ca23fd50b2964b202542c121a814f3d90c4ef0a9560bb1bc162a333a0e83e72c", func := "hopmesh/hopmeshlaw47.GossipQuick", spec := "gossipQuick", unfollowed := true, recurses := true, apart := false }
def GossipQuickSaid : Prop := gossipQuickRow.holds Try.pinned (OpenSpec.ofChange gossipQuickSpec)

/-- ITS FALSE NEIGHBOUR: 'it returns false'. Refute it at one input. -/
def gossipQuickWrong : ChangeSpec := { name := "gossipQuick", fn := fun _ => fun
  | [d1, d2, d3, d4] => { results := [.lit (.bool false)], args := [d1, d2, d3, d4] }
  | _ => none }
def GossipQuickWrongFalsely : Prop := gossipQuickRow.holds Try.pinned (OpenSpec.ofChange gossipQuickWrong)

/-- 'hopmeshlaw47.GossipPolite': WHATEVER THE INPUT: true; the input reads as it did. -/
def gossipPoliteSpec : ChangeSpec := { name := "gossipPolite", fn := fun _ => fun
  | [d1, d2] => { results := [.lit (.bool true)], args := [d1, d2] }
  | _ => none }
def gossipPoliteRow : OpenClaim := { program := "ytcojimifplhodaa", sum := "ca23fd50b2964b202542c121a814f3d90c4ef0a9560bb1bc162a333a0e83e72c", func := "hopmesh/hopmeshlaw47.GossipPolite", spec := "gossipPolite", unfollowed := true, recurses := true, apart := false }
def GossipPoliteSaid : Prop := gossipPoliteRow.holds Try.pinned (OpenSpec.ofChange gossipPoliteSpec)

/-- ITS FALSE NEIGHBOUR: 'it returns false'. Refute it at one input. -/
def gossipPoliteWrong : ChangeSpec := { name := "gossipPolite", fn := fun _ => fun
  | [d1, d2] => { results := [.lit (.bool false)], args := [d1, d2] }
  | _ => none }
def GossipPoliteWrongFalsely : Prop := gossipPoliteRow.holds Try.pinned (OpenSpec.ofChange gossipPoliteWrong)

/-- 'hopmeshlaw47.GossipHushed': WHATEVER THE INPUT: true; the input reads as it did. -/
def gossipHushedSpec : ChangeSpec := { name := "gossipHushed", fn := fun _ => fun
  | [d1, d2, d3, d4] => { results := [.lit (.bool true)], args := [d1, d2, d3, d4] }
  | _ => none }
def gossipHushedRow : OpenClaim := { program := "ytcojimifplhodaa", sum := "ca23fd50b2964b202542c121a814f3d90c4ef0a9560bb1bc162a333a0e83e72c", func := "hopmesh/hopmeshlaw47.GossipHushed", spec := "gossipHushed", unfollowed := true, recurses := true, apart := false }
def GossipHushedSaid : Prop := gossipHushedRow.holds Try.pinned (OpenSpec.ofChange gossipHushedSpec)

/-- ITS FALSE NEIGHBOUR: 'it returns false'. Refute it at one input. -/
def gossipHushedWrong : ChangeSpec := { name := "gossipHushed", fn := fun _ => fun
  | [d1, d2, d3, d4] => { results := [.lit (.bool false)], args := [d1, d2, d3, d4] }
  | _ => none }
def GossipHushedWrongFalsely : Prop := gossipHushedRow.holds Try.pinned (OpenSpec.ofChange gossipHushedWrong)

/- THE SECOND FORM. 'bulk': how many values and letters a reading holds, each counted each time it is reached (what is shared counts as often as it is met; a slice's spare places count too). A statement '..UptoSaid' is the law's where the arguments, and the package variables that the reading takes, are together of bulk at most 1048576: NARROWER than '..Said'. Prove '..Said' where nothing that the law and all that it calls make is longer than what came in: it says more and counts as full. Else prove '..UptoSaid'. A law counts once. -/
mutual
def uptoBulk {H : Type} : DataW H → Nat
  | .lit (.string bytes) => bytes.length + 1
  | .lit _ => 1
  | .nil => 1
  | .ptr d => uptoBulk d + 1
  | .slice elems spare => uptoBulkAll elems + uptoBulkAll spare + 1
  | .agg parts => uptoBulkAll parts + 1
  | .iface _ d => uptoBulk d + 1
  | .map entries => uptoBulkEntries entries + 1
  | .held _ => 1
def uptoBulkAll {H : Type} : List (DataW H) → Nat
  | [] => 0
  | d :: r => uptoBulk d + uptoBulkAll r
def uptoBulkEntries {H : Type} : List (Lit × DataW H) → Nat
  | [] => 0
  | x :: r => uptoBulkEntry x + uptoBulkEntries r
def uptoBulkEntry {H : Type} : Lit × DataW H → Nat
  | (.string bytes, d) => bytes.length + uptoBulk d + 1
  | (_, d) => uptoBulk d + 1
 end
def uptoSmall : (H : Type) → List (DataW H) → Bool := fun _ ds => decide (uptoBulkAll ds ≤ 1048576)
def OpenSpec.upto (s : _root_.Go.ChangeSpec) : _root_.Go.OpenSpec := { _root_.Go.OpenSpec.ofChange s with cond := some uptoSmall }

/-- 'hopmeshlaw47.GossipRuns', WHERE WHAT IT READS IS OF BULK AT MOST 1048576: true; the input reads as it did. -/
def gossipRunsUptoRow : OpenClaim := { program := "ytcojimifplhodaa", sum := "ca23fd50b2964b202542c121a814f3d90c4ef0a9560bb1bc162a333a0e83e72c", func := "hopmesh/hopmeshlaw47.GossipRuns", spec := "gossipRuns", unfollowed := true, recurses := true, apart := false, narrowed := true }
def GossipRunsUptoSaid : Prop := gossipRunsUptoRow.holds Try.pinned (OpenSpec.upto gossipRunsSpec)

/-- 'hopmeshlaw47.GossipOnce', WHERE WHAT IT READS IS OF BULK AT MOST 1048576: true; the input reads as it did. -/
def gossipOnceUptoRow : OpenClaim := { program := "ytcojimifplhodaa", sum := "ca23fd50b2964b202542c121a814f3d90c4ef0a9560bb1bc162a333a0e83e72c", func := "hopmesh/hopmeshlaw47.GossipOnce", spec := "gossipOnce", unfollowed := true, recurses := true, apart := false, narrowed := true }
def GossipOnceUptoSaid : Prop := gossipOnceUptoRow.holds Try.pinned (OpenSpec.upto gossipOnceSpec)

/-- 'hopmeshlaw47.GossipSpeaks', WHERE WHAT IT READS IS OF BULK AT MOST 1048576: true; the input reads as it did. -/
def gossipSpeaksUptoRow : OpenClaim := { program := "ytcojimifplhodaa", sum := "ca23fd50b2964b202542c121a814f3d90c4ef0a9560bb1bc162a333a0e83e72c", func := "hopmesh/hopmeshlaw47.GossipSpeaks", spec := "gossipSpeaks", unfollowed := true, recurses := true, apart := false, narrowed := true }
def GossipSpeaksUptoSaid : Prop := gossipSpeaksUptoRow.holds Try.pinned (OpenSpec.upto gossipSpeaksSpec)

/-- 'hopmeshlaw47.GossipQuick', WHERE WHAT IT READS IS OF BULK AT MOST 1048576: true; the input reads as it did. -/
def gossipQuickUptoRow : OpenClaim := { program := "ytcojimifplhodaa", sum := "ca23fd50b2964b202542c121a814f3d90c4ef0a9560bb1bc162a333a0e83e72c", func := "hopmesh/hopmeshlaw47.GossipQuick", spec := "gossipQuick", unfollowed := true, recurses := true, apart := false, narrowed := true }
def GossipQuickUptoSaid : Prop := gossipQuickUptoRow.holds Try.pinned (OpenSpec.upto gossipQuickSpec)

/-- 'hopmeshlaw47.GossipPolite', WHERE WHAT IT READS IS OF BULK AT MOST 1048576: true; the input reads as it did. -/
def gossipPoliteUptoRow : OpenClaim := { program := "ytcojimifplhodaa", sum := "ca23fd50b2964b202542c121a814f3d90c4ef0a9560bb1bc162a333a0e83e72c", func := "hopmesh/hopmeshlaw47.GossipPolite", spec := "gossipPolite", unfollowed := true, recurses := true, apart := false, narrowed := true }
def GossipPoliteUptoSaid : Prop := gossipPoliteUptoRow.holds Try.pinned (OpenSpec.upto gossipPoliteSpec)

/-- 'hopmeshlaw47.GossipHushed', WHERE WHAT IT READS IS OF BULK AT MOST 1048576: true; the input reads as it did. -/
def gossipHushedUptoRow : OpenClaim := { program := "ytcojimifplhodaa", sum := "ca23fd50b2964b202542c121a814f3d90c4ef0a9560bb1bc162a333a0e83e72c", func := "hopmesh/hopmeshlaw47.GossipHushed", spec := "gossipHushed", unfollowed := true, recurses := true, apart := false, narrowed := true }
def GossipHushedUptoSaid : Prop := gossipHushedUptoRow.holds Try.pinned (OpenSpec.upto gossipHushedSpec)

end Rows
end Go.Proofs.Ytcojimifplhodaa
