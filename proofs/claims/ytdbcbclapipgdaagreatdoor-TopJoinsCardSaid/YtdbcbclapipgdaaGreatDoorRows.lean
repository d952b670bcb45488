/-
  NARROWER THAN 'FOR EVERY INPUT', by the rows' own cells (each row's printed sentence says how): JoinAsks: laid · JoinAdmits: laid · JoinNumbers: laid · JoinProves: laid · JoinJoiners: laid · JoinPlays: laid · JoinBytes: laid · JoinBack: laid · TopJoins: laid.
  DERIVED. THE GIVEN ROWS OF THIS SEAT. 9 by the template 'for every input the law returns true; each argument reads behind the call as it read before'; 0 by the template 'total and deterministic' (their statements: YtdbcbclapipgdaaGreatDoorTotals.lean).
  GIVEN WITH THE SEED: the statements are not yours to turn. If you find one false, say at which input.
  Laid BY PROGRAM, IN A SANDBOX (cutbox-rows.mjs): the forced cells as the released guide's own fill.sh prints them over the translation 32a8b118df4967ef… (all of the seat's roots in one cut). By AI agents, Wed Nov 11 2026. No macro, syntax, notation, axiom, sorry.
-/
import Derived.Test.YtdbcbclapipgdaaGreatDoorChecked
import GoSem.Claim
import GoSem.ClaimJoined
import GoSem.ClaimMapViews
import Derived.JoinedTies
import Derived.KernelRfl
namespace Go.Proofs.YtdbcbclapipgdaaGreatDoor
/- THE CELL 'sum', in the pinned program and in every row, IS THE sha256 OF THE DUMP (.gsa) THAT YtdbcbclapipgdaaGreatDoorProg.lean LOADS. Nothing in Lean hashes anything: it is a label: what it is worth is what the hold of that sum in a sandbox is worth. -/
noncomputable def Tryz.pinned : Pinned := { name := "ytdbcbclapipgdaagreatdoor", sum := "32a8b118df4967efff6ff6f6816379bb104639c41084aaa06057d5c6f3c611e9", checked := Tryz.checked }
namespace Rows
def none {H : Type} : Left H := { results := [], args := [] }

/- WHAT THE LISTED PACKAGE-LEVEL VARIABLES READ AS WHEN THE CALL BEGINS. Each datum BY PROGRAM (the guide's laid-datum.mjs) off the statement by which the dump's own 'gosem.cut.vars' lays the variable. In a bare row this is a premise. The card (YtdbcbclapipgdaaGreatDoorCards.lean) ties it to the program's text. -/
def laid_math_bits_deBruijn32tab {H : Type} : DataW H := .agg [.lit (.int .u8 0), .lit (.int .u8 1), .lit (.int .u8 28), .lit (.int .u8 2), .lit (.int .u8 29), .lit (.int .u8 14), .lit (.int .u8 24), .lit (.int .u8 3), .lit (.int .u8 30), .lit (.int .u8 22), .lit (.int .u8 20), .lit (.int .u8 15), .lit (.int .u8 25), .lit (.int .u8 17), .lit (.int .u8 4), .lit (.int .u8 8), .lit (.int .u8 31), .lit (.int .u8 27), .lit (.int .u8 13), .lit (.int .u8 23), .lit (.int .u8 21), .lit (.int .u8 19), .lit (.int .u8 16), .lit (.int .u8 7), .lit (.int .u8 26), .lit (.int .u8 12), .lit (.int .u8 18), .lit (.int .u8 6), .lit (.int .u8 11), .lit (.int .u8 5), .lit (.int .u8 10), .lit (.int .u8 9)]
def laid_math_bits_deBruijn64tab {H : Type} : DataW H := .agg [.lit (.int .u8 0), .lit (.int .u8 1), .lit (.int .u8 56), .lit (.int .u8 2), .lit (.int .u8 57), .lit (.int .u8 49), .lit (.int .u8 28), .lit (.int .u8 3), .lit (.int .u8 61), .lit (.int .u8 58), .lit (.int .u8 42), .lit (.int .u8 50), .lit (.int .u8 38), .lit (.int .u8 29), .lit (.int .u8 17), .lit (.int .u8 4), .lit (.int .u8 62), .lit (.int .u8 47), .lit (.int .u8 59), .lit (.int .u8 36), .lit (.int .u8 45), .lit (.int .u8 43), .lit (.int .u8 51), .lit (.int .u8 22), .lit (.int .u8 53), .lit (.int .u8 39), .lit (.int .u8 33), .lit (.int .u8 30), .lit (.int .u8 24), .lit (.int .u8 18), .lit (.int .u8 12), .lit (.int .u8 5), .lit (.int .u8 63), .lit (.int .u8 55), .lit (.int .u8 48), .lit (.int .u8 27), .lit (.int .u8 60), .lit (.int .u8 41), .lit (.int .u8 37), .lit (.int .u8 16), .lit (.int .u8 46), .lit (.int .u8 35), .lit (.int .u8 44), .lit (.int .u8 21), .lit (.int .u8 52), .lit (.int .u8 32), .lit (.int .u8 23), .lit (.int .u8 11), .lit (.int .u8 54), .lit (.int .u8 26), .lit (.int .u8 40), .lit (.int .u8 15), .lit (.int .u8 34), .lit (.int .u8 20), .lit (.int .u8 31), .lit (.int .u8 10), .lit (.int .u8 25), .lit (.int .u8 14), .lit (.int .u8 19), .lit (.int .u8 9), .lit (.int .u8 13), .lit (.int .u8 8), .lit (.int .u8 7), .lit (.int .u8 6)]
def laid_internal_strconv_uint64pow10 {H : Type} : DataW H := .agg [.lit (.int .u64 1), .lit (.int .u64 10), .lit (.int .u64 100), .lit (.int .u64 1000), .lit (.int .u64 10000), .lit (.int .u64 100000), .lit (.int .u64 1000000), .lit (.int .u64 10000000), .lit (.int .u64 100000000), .lit (.int .u64 1000000000), .lit (.int .u64 10000000000), .lit (.int .u64 100000000000), .lit (.int .u64 1000000000000), .lit (.int .u64 10000000000000), .lit (.int .u64 100000000000000), .lit (.int .u64 1000000000000000), .lit (.int .u64 10000000000000000), .lit (.int .u64 100000000000000000), .lit (.int .u64 1000000000000000000), .lit (.int .u64 10000000000000000000)]

/-- 'hopmeshlaw21.JoinAsks': WHATEVER THE INPUT: true; the input reads as it did. -/
def joinAsksSpec : ChangeSpec := { name := "joinAsks", fn := fun _ => fun
  | [d1, d2, d3] => { results := [.lit (.bool true)], args := [d1, d2, d3] }
  | _ => none }
def joinAsksRow : OpenClaim := { program := "ytdbcbclapipgdaagreatdoor", sum := "32a8b118df4967efff6ff6f6816379bb104639c41084aaa06057d5c6f3c611e9", func := "hopmesh/hopmeshlaw21.JoinAsks", spec := "joinAsks", unfollowed := true, recurses := true, named := ["internal/strconv.uint64pow10", "math/bits.deBruijn32tab", "math/bits.deBruijn64tab"], apart := false, laid := [("math/bits.deBruijn32tab", laid_math_bits_deBruijn32tab), ("math/bits.deBruijn64tab", laid_math_bits_deBruijn64tab), ("internal/strconv.uint64pow10", laid_internal_strconv_uint64pow10)] }
def JoinAsksSaid : Prop := joinAsksRow.holds Tryz.pinned (OpenSpec.ofChange joinAsksSpec)

/-- ITS FALSE NEIGHBOUR: 'it returns false'. Refute it at one input. -/
def joinAsksWrong : ChangeSpec := { name := "joinAsks", fn := fun _ => fun
  | [d1, d2, d3] => { results := [.lit (.bool false)], args := [d1, d2, d3] }
  | _ => none }
def JoinAsksWrongFalsely : Prop := joinAsksRow.holds Tryz.pinned (OpenSpec.ofChange joinAsksWrong)

/-- 'hopmeshlaw21.JoinAdmits': WHATEVER THE INPUT: true; the input reads as it did. -/
def joinAdmitsSpec : ChangeSpec := { name := "joinAdmits", fn := fun _ => fun
  | [d1, d2] => { results := [.lit (.bool true)], args := [d1, d2] }
  | _ => none }
def joinAdmitsRow : OpenClaim := { program := "ytdbcbclapipgdaagreatdoor", sum := "32a8b118df4967efff6ff6f6816379bb104639c41084aaa06057d5c6f3c611e9", func := "hopmesh/hopmeshlaw21.JoinAdmits", spec := "joinAdmits", unfollowed := true, recurses := true, named := ["internal/strconv.uint64pow10", "math/bits.deBruijn32tab", "math/bits.deBruijn64tab"], apart := false, laid := [("math/bits.deBruijn32tab", laid_math_bits_deBruijn32tab), ("math/bits.deBruijn64tab", laid_math_bits_deBruijn64tab), ("internal/strconv.uint64pow10", laid_internal_strconv_uint64pow10)] }
def JoinAdmitsSaid : Prop := joinAdmitsRow.holds Tryz.pinned (OpenSpec.ofChange joinAdmitsSpec)

/-- ITS FALSE NEIGHBOUR: 'it returns false'. Refute it at one input. -/
def joinAdmitsWrong : ChangeSpec := { name := "joinAdmits", fn := fun _ => fun
  | [d1, d2] => { results := [.lit (.bool false)], args := [d1, d2] }
  | _ => none }
def JoinAdmitsWrongFalsely : Prop := joinAdmitsRow.holds Tryz.pinned (OpenSpec.ofChange joinAdmitsWrong)

/-- 'hopmeshlaw21.JoinNumbers': WHATEVER THE INPUT: true; the input reads as it did. -/
def joinNumbersSpec : ChangeSpec := { name := "joinNumbers", fn := fun _ => fun
  | [d1, d2] => { results := [.lit (.bool true)], args := [d1, d2] }
  | _ => none }
def joinNumbersRow : OpenClaim := { program := "ytdbcbclapipgdaagreatdoor", sum := "32a8b118df4967efff6ff6f6816379bb104639c41084aaa06057d5c6f3c611e9", func := "hopmesh/hopmeshlaw21.JoinNumbers", spec := "joinNumbers", unfollowed := true, recurses := true, named := ["internal/strconv.uint64pow10", "math/bits.deBruijn32tab", "math/bits.deBruijn64tab"], apart := false, laid := [("math/bits.deBruijn32tab", laid_math_bits_deBruijn32tab), ("math/bits.deBruijn64tab", laid_math_bits_deBruijn64tab), ("internal/strconv.uint64pow10", laid_internal_strconv_uint64pow10)] }
def JoinNumbersSaid : Prop := joinNumbersRow.holds Tryz.pinned (OpenSpec.ofChange joinNumbersSpec)

/-- ITS FALSE NEIGHBOUR: 'it returns false'. Refute it at one input. -/
def joinNumbersWrong : ChangeSpec := { name := "joinNumbers", fn := fun _ => fun
  | [d1, d2] => { results := [.lit (.bool false)], args := [d1, d2] }
  | _ => none }
def JoinNumbersWrongFalsely : Prop := joinNumbersRow.holds Tryz.pinned (OpenSpec.ofChange joinNumbersWrong)

/-- 'hopmeshlaw21.JoinProves': WHATEVER THE INPUT: true; the input reads as it did. -/
def joinProvesSpec : ChangeSpec := { name := "joinProves", fn := fun _ => fun
  | [d1, d2, d3, d4] => { results := [.lit (.bool true)], args := [d1, d2, d3, d4] }
  | _ => none }
def joinProvesRow : OpenClaim := { program := "ytdbcbclapipgdaagreatdoor", sum := "32a8b118df4967efff6ff6f6816379bb104639c41084aaa06057d5c6f3c611e9", func := "hopmesh/hopmeshlaw21.JoinProves", spec := "joinProves", unfollowed := true, recurses := true, named := ["internal/strconv.uint64pow10", "math/bits.deBruijn32tab", "math/bits.deBruijn64tab"], apart := false, laid := [("math/bits.deBruijn32tab", laid_math_bits_deBruijn32tab), ("math/bits.deBruijn64tab", laid_math_bits_deBruijn64tab), ("internal/strconv.uint64pow10", laid_internal_strconv_uint64pow10)] }
def JoinProvesSaid : Prop := joinProvesRow.holds Tryz.pinned (OpenSpec.ofChange joinProvesSpec)

/-- ITS FALSE NEIGHBOUR: 'it returns false'. Refute it at one input. -/
def joinProvesWrong : ChangeSpec := { name := "joinProves", fn := fun _ => fun
  | [d1, d2, d3, d4] => { results := [.lit (.bool false)], args := [d1, d2, d3, d4] }
  | _ => none }
def JoinProvesWrongFalsely : Prop := joinProvesRow.holds Tryz.pinned (OpenSpec.ofChange joinProvesWrong)

/-- 'hopmeshlaw21.JoinJoiners': WHATEVER THE INPUT: true; the input reads as it did. -/
def joinJoinersSpec : ChangeSpec := { name := "joinJoiners", fn := fun _ => fun
  | [d1, d2, d3, d4] => { results := [.lit (.bool true)], args := [d1, d2, d3, d4] }
  | _ => none }
def joinJoinersRow : OpenClaim := { program := "ytdbcbclapipgdaagreatdoor", sum := "32a8b118df4967efff6ff6f6816379bb104639c41084aaa06057d5c6f3c611e9", func := "hopmesh/hopmeshlaw21.JoinJoiners", spec := "joinJoiners", unfollowed := true, recurses := true, named := ["internal/strconv.uint64pow10", "math/bits.deBruijn32tab", "math/bits.deBruijn64tab"], apart := false, laid := [("math/bits.deBruijn32tab", laid_math_bits_deBruijn32tab), ("math/bits.deBruijn64tab", laid_math_bits_deBruijn64tab), ("internal/strconv.uint64pow10", laid_internal_strconv_uint64pow10)] }
def JoinJoinersSaid : Prop := joinJoinersRow.holds Tryz.pinned (OpenSpec.ofChange joinJoinersSpec)

/-- ITS FALSE NEIGHBOUR: 'it returns false'. Refute it at one input. -/
def joinJoinersWrong : ChangeSpec := { name := "joinJoiners", fn := fun _ => fun
  | [d1, d2, d3, d4] => { results := [.lit (.bool false)], args := [d1, d2, d3, d4] }
  | _ => none }
def JoinJoinersWrongFalsely : Prop := joinJoinersRow.holds Tryz.pinned (OpenSpec.ofChange joinJoinersWrong)

/-- 'hopmeshlaw21.JoinPlays': WHATEVER THE INPUT: true; the input reads as it did. -/
def joinPlaysSpec : ChangeSpec := { name := "joinPlays", fn := fun _ => fun
  | [d1, d2] => { results := [.lit (.bool true)], args := [d1, d2] }
  | _ => none }
def joinPlaysRow : OpenClaim := { program := "ytdbcbclapipgdaagreatdoor", sum := "32a8b118df4967efff6ff6f6816379bb104639c41084aaa06057d5c6f3c611e9", func := "hopmesh/hopmeshlaw21.JoinPlays", spec := "joinPlays", unfollowed := true, recurses := true, named := ["internal/strconv.uint64pow10", "math/bits.deBruijn32tab", "math/bits.deBruijn64tab"], apart := false, laid := [("math/bits.deBruijn32tab", laid_math_bits_deBruijn32tab), ("math/bits.deBruijn64tab", laid_math_bits_deBruijn64tab), ("internal/strconv.uint64pow10", laid_internal_strconv_uint64pow10)] }
def JoinPlaysSaid : Prop := joinPlaysRow.holds Tryz.pinned (OpenSpec.ofChange joinPlaysSpec)

/-- ITS FALSE NEIGHBOUR: 'it returns false'. Refute it at one input. -/
def joinPlaysWrong : ChangeSpec := { name := "joinPlays", fn := fun _ => fun
  | [d1, d2] => { results := [.lit (.bool false)], args := [d1, d2] }
  | _ => none }
def JoinPlaysWrongFalsely : Prop := joinPlaysRow.holds Tryz.pinned (OpenSpec.ofChange joinPlaysWrong)

/-- 'hopmeshlaw21.JoinBytes': WHATEVER THE INPUT: true; the input reads as it did. -/
def joinBytesSpec : ChangeSpec := { name := "joinBytes", fn := fun _ => fun
  | [d1, d2, d3] => { results := [.lit (.bool true)], args := [d1, d2, d3] }
  | _ => none }
def joinBytesRow : OpenClaim := { program := "ytdbcbclapipgdaagreatdoor", sum := "32a8b118df4967efff6ff6f6816379bb104639c41084aaa06057d5c6f3c611e9", func := "hopmesh/hopmeshlaw21.JoinBytes", spec := "joinBytes", unfollowed := true, recurses := true, named := ["internal/strconv.uint64pow10", "math/bits.deBruijn32tab", "math/bits.deBruijn64tab"], apart := false, laid := [("math/bits.deBruijn32tab", laid_math_bits_deBruijn32tab), ("math/bits.deBruijn64tab", laid_math_bits_deBruijn64tab), ("internal/strconv.uint64pow10", laid_internal_strconv_uint64pow10)] }
def JoinBytesSaid : Prop := joinBytesRow.holds Tryz.pinned (OpenSpec.ofChange joinBytesSpec)

/-- ITS FALSE NEIGHBOUR: 'it returns false'. Refute it at one input. -/
def joinBytesWrong : ChangeSpec := { name := "joinBytes", fn := fun _ => fun
  | [d1, d2, d3] => { results := [.lit (.bool false)], args := [d1, d2, d3] }
  | _ => none }
def JoinBytesWrongFalsely : Prop := joinBytesRow.holds Tryz.pinned (OpenSpec.ofChange joinBytesWrong)

/-- 'hopmeshlaw21.JoinBack': WHATEVER THE INPUT: true; the input reads as it did. -/
def joinBackSpec : ChangeSpec := { name := "joinBack", fn := fun _ => fun
  | [d1, d2, d3] => { results := [.lit (.bool true)], args := [d1, d2, d3] }
  | _ => none }
def joinBackRow : OpenClaim := { program := "ytdbcbclapipgdaagreatdoor", sum := "32a8b118df4967efff6ff6f6816379bb104639c41084aaa06057d5c6f3c611e9", func := "hopmesh/hopmeshlaw21.JoinBack", spec := "joinBack", unfollowed := true, recurses := true, named := ["internal/strconv.uint64pow10", "math/bits.deBruijn32tab", "math/bits.deBruijn64tab"], apart := false, laid := [("math/bits.deBruijn32tab", laid_math_bits_deBruijn32tab), ("math/bits.deBruijn64tab", laid_math_bits_deBruijn64tab), ("internal/strconv.uint64pow10", laid_internal_strconv_uint64pow10)] }
def JoinBackSaid : Prop := joinBackRow.holds Tryz.pinned (OpenSpec.ofChange joinBackSpec)

/-- ITS FALSE NEIGHBOUR: 'it returns false'. Refute it at one input. -/
def joinBackWrong : ChangeSpec := { name := "joinBack", fn := fun _ => fun
  | [d1, d2, d3] => { results := [.lit (.bool false)], args := [d1, d2, d3] }
  | _ => none }
def JoinBackWrongFalsely : Prop := joinBackRow.holds Tryz.pinned (OpenSpec.ofChange joinBackWrong)

/-- 'hopmeshtop.TopJoins': WHATEVER THE INPUT: true; the input reads as it did. -/
def topJoinsSpec : ChangeSpec := { name := "topJoins", fn := fun _ => fun
  | [d1, d2, d3] => { results := [.lit (.bool true)], args := [d1, d2, d3] }
  | _ => none }
def topJoinsRow : OpenClaim := { program := "ytdbcbclapipgdaagreatdoor", sum := "32a8b118df4967efff6ff6f6816379bb104639c41084aaa06057d5c6f3c611e9", func := "hopmesh/hopmeshtop.TopJoins", spec := "topJoins", unfollowed := true, recurses := true, named := ["internal/strconv.uint64pow10", "math/bits.deBruijn32tab", "math/bits.deBruijn64tab"], apart := false, laid := [("math/bits.deBruijn32tab", laid_math_bits_deBruijn32tab), ("math/bits.deBruijn64tab", laid_math_bits_deBruijn64tab), ("internal/strconv.uint64pow10", laid_internal_strconv_uint64pow10)] }
def TopJoinsSaid : Prop := topJoinsRow.holds Tryz.pinned (OpenSpec.ofChange topJoinsSpec)

/-- ITS FALSE NEIGHBOUR: 'it returns false'. Refute it at one input. -/
def topJoinsWrong : ChangeSpec := { name := "topJoins", fn := fun _ => fun
  | [d1, d2, d3] => { results := [.lit (.bool false)], args := [d1, d2, d3] }
  | _ => none }
def TopJoinsWrongFalsely : Prop := topJoinsRow.holds Tryz.pinned (OpenSpec.ofChange topJoinsWrong)

/- THE SECOND FORM. 'bulk': how many values and letters a reading holds, each counted each time it is reached (what is shared counts as often as it is met; a slice's spare places count too). A statement '..UptoSaid' is the law's where the arguments, and the package variables that the reading takes, are together of bulk at most 1048576: NARROWER than '..Said'. Prove '..Said' where nothing that the law and all that it calls make is longer than what came in: it says more and counts as full. Else prove '..UptoSaid'. A law counts once. -/
mutual
def uptoBulk {H : Type} : DataW H → Nat
  | .lit (.string bytes) => bytes.length + 1
  | .lit _ => 1
  | .nil => 1
  | .ptr d => uptoBulk d + 1
  | .slice elems spare => uptoBulkAll elems + uptoBulkAll spare + 1
  | .agg parts => uptoBulkAll parts + 1
  | .iface _ d => uptoBulk d + 1
  | .map entries => uptoBulkEntries entries + 1
  | .held _ => 1
def uptoBulkAll {H : Type} : List (DataW H) → Nat
  | [] => 0
  | d :: r => uptoBulk d + uptoBulkAll r
def uptoBulkEntries {H : Type} : List (Lit × DataW H) → Nat
  | [] => 0
  | x :: r => uptoBulkEntry x + uptoBulkEntries r
def uptoBulkEntry {H : Type} : Lit × DataW H → Nat
  | (.string bytes, d) => bytes.length + uptoBulk d + 1
  | (_, d) => uptoBulk d + 1
 end
def uptoSmall : (H : Type) → List (DataW H) → Bool := fun _ ds => decide (uptoBulkAll ds ≤ 1048576)
def OpenSpec.upto (s : _root_.Go.ChangeSpec) : _root_.Go.OpenSpec := { _root_.Go.OpenSpec.ofChange s with cond := some uptoSmall }

/-- 'hopmeshlaw21.JoinAsks', WHERE WHAT IT READS IS OF BULK AT MOST 1048576: true; the input reads as it did. -/
def joinAsksUptoRow : OpenClaim := { program := "ytdbcbclapipgdaagreatdoor", sum := "32a8b118df4967efff6ff6f6816379bb104639c41084aaa06057d5c6f3c611e9", func := "hopmesh/hopmeshlaw21.JoinAsks", spec := "joinAsks", unfollowed := true, recurses := true, named := ["internal/strconv.uint64pow10", "math/bits.deBruijn32tab", "math/bits.deBruijn64tab"], apart := false, laid := [("math/bits.deBruijn32tab", laid_math_bits_deBruijn32tab), ("math/bits.deBruijn64tab", laid_math_bits_deBruijn64tab), ("internal/strconv.uint64pow10", laid_internal_strconv_uint64pow10)], narrowed := true }
def JoinAsksUptoSaid : Prop := joinAsksUptoRow.holds Tryz.pinned (OpenSpec.upto joinAsksSpec)

/-- 'hopmeshlaw21.JoinAdmits', WHERE WHAT IT READS IS OF BULK AT MOST 1048576: true; the input reads as it did. -/
def joinAdmitsUptoRow : OpenClaim := { program := "ytdbcbclapipgdaagreatdoor", sum := "32a8b118df4967efff6ff6f6816379bb104639c41084aaa06057d5c6f3c611e9", func := "hopmesh/hopmeshlaw21.JoinAdmits", spec := "joinAdmits", unfollowed := true, recurses := true, named := ["internal/strconv.uint64pow10", "math/bits.deBruijn32tab", "math/bits.deBruijn64tab"], apart := false, laid := [("math/bits.deBruijn32tab", laid_math_bits_deBruijn32tab), ("math/bits.deBruijn64tab", laid_math_bits_deBruijn64tab), ("internal/strconv.uint64pow10", laid_internal_strconv_uint64pow10)], narrowed := true }
def JoinAdmitsUptoSaid : Prop := joinAdmitsUptoRow.holds Tryz.pinned (OpenSpec.upto joinAdmitsSpec)

/-- 'hopmeshlaw21.JoinNumbers', WHERE WHAT IT READS IS OF BULK AT MOST 1048576: true; the input reads as it did. -/
def joinNumbersUptoRow : OpenClaim := { program := "ytdbcbclapipgdaagreatdoor", sum := "32a8b118df4967efff6ff6f6816379bb104639c41084aaa06057d5c6f3c611e9", func := "hopmesh/hopmeshlaw21.JoinNumbers", spec := "joinNumbers", unfollowed := true, recurses := true, named := ["internal/strconv.uint64pow10", "math/bits.deBruijn32tab", "math/bits.deBruijn64tab"], apart := false, laid := [("math/bits.deBruijn32tab", laid_math_bits_deBruijn32tab), ("math/bits.deBruijn64tab", laid_math_bits_deBruijn64tab), ("internal/strconv.uint64pow10", laid_internal_strconv_uint64pow10)], narrowed := true }
def JoinNumbersUptoSaid : Prop := joinNumbersUptoRow.holds Tryz.pinned (OpenSpec.upto joinNumbersSpec)

/-- 'hopmeshlaw21.JoinProves', WHERE WHAT IT READS IS OF BULK AT MOST 1048576: true; the input reads as it did. -/
def joinProvesUptoRow : OpenClaim := { program := "ytdbcbclapipgdaagreatdoor", sum := "32a8b118df4967efff6ff6f6816379bb104639c41084aaa06057d5c6f3c611e9", func := "hopmesh/hopmeshlaw21.JoinProves", spec := "joinProves", unfollowed := true, recurses := true, named := ["internal/strconv.uint64pow10", "math/bits.deBruijn32tab", "math/bits.deBruijn64tab"], apart := false, laid := [("math/bits.deBruijn32tab", laid_math_bits_deBruijn32tab), ("math/bits.deBruijn64tab", laid_math_bits_deBruijn64tab), ("internal/strconv.uint64pow10", laid_internal_strconv_uint64pow10)], narrowed := true }
def JoinProvesUptoSaid : Prop := joinProvesUptoRow.holds Tryz.pinned (OpenSpec.upto joinProvesSpec)

/-- 'hopmeshlaw21.JoinJoiners', WHERE WHAT IT READS IS OF BULK AT MOST 1048576: true; the input reads as it did. -/
def joinJoinersUptoRow : OpenClaim := { program := "ytdbcbclapipgdaagreatdoor", sum := "32a8b118df4967efff6ff6f6816379bb104639c41084aaa06057d5c6f3c611e9", func := "hopmesh/hopmeshlaw21.JoinJoiners", spec := "joinJoiners", unfollowed := true, recurses := true, named := ["internal/strconv.uint64pow10", "math/bits.deBruijn32tab", "math/bits.deBruijn64tab"], apart := false, laid := [("math/bits.deBruijn32tab", laid_math_bits_deBruijn32tab), ("math/bits.deBruijn64tab", laid_math_bits_deBruijn64tab), ("internal/strconv.uint64pow10", laid_internal_strconv_uint64pow10)], narrowed := true }
def JoinJoinersUptoSaid : Prop := joinJoinersUptoRow.holds Tryz.pinned (OpenSpec.upto joinJoinersSpec)

/-- 'hopmeshlaw21.JoinPlays', WHERE WHAT IT READS IS OF BULK AT MOST 1048576: true; the input reads as it did. -/
def joinPlaysUptoRow : OpenClaim := { program := "ytdbcbclapipgdaagreatdoor", sum := "32a8b118df4967efff6ff6f6816379bb104639c41084aaa06057d5c6f3c611e9", func := "hopmesh/hopmeshlaw21.JoinPlays", spec := "joinPlays", unfollowed := true, recurses := true, named := ["internal/strconv.uint64pow10", "math/bits.deBruijn32tab", "math/bits.deBruijn64tab"], apart := false, laid := [("math/bits.deBruijn32tab", laid_math_bits_deBruijn32tab), ("math/bits.deBruijn64tab", laid_math_bits_deBruijn64tab), ("internal/strconv.uint64pow10", laid_internal_strconv_uint64pow10)], narrowed := true }
def JoinPlaysUptoSaid : Prop := joinPlaysUptoRow.holds Tryz.pinned (OpenSpec.upto joinPlaysSpec)

/-- 'hopmeshlaw21.JoinBytes', WHERE WHAT IT READS IS OF BULK AT MOST 1048576: true; the input reads as it did. -/
def joinBytesUptoRow : OpenClaim := { program := "ytdbcbclapipgdaagreatdoor", sum := "32a8b118df4967efff6ff6f6816379bb104639c41084aaa06057d5c6f3c611e9", func := "hopmesh/hopmeshlaw21.JoinBytes", spec := "joinBytes", unfollowed := true, recurses := true, named := ["internal/strconv.uint64pow10", "math/bits.deBruijn32tab", "math/bits.deBruijn64tab"], apart := false, laid := [("math/bits.deBruijn32tab", laid_math_bits_deBruijn32tab), ("math/bits.deBruijn64tab", laid_math_bits_deBruijn64tab), ("internal/strconv.uint64pow10", laid_internal_strconv_uint64pow10)], narrowed := true }
def JoinBytesUptoSaid : Prop := joinBytesUptoRow.holds Tryz.pinned (OpenSpec.upto joinBytesSpec)

/-- 'hopmeshlaw21.JoinBack', WHERE WHAT IT READS IS OF BULK AT MOST 1048576: true; the input reads as it did. -/
def joinBackUptoRow : OpenClaim := { program := "ytdbcbclapipgdaagreatdoor", sum := "32a8b118df4967efff6ff6f6816379bb104639c41084aaa06057d5c6f3c611e9", func := "hopmesh/hopmeshlaw21.JoinBack", spec := "joinBack", unfollowed := true, recurses := true, named := ["internal/strconv.uint64pow10", "math/bits.deBruijn32tab", "math/bits.deBruijn64tab"], apart := false, laid := [("math/bits.deBruijn32tab", laid_math_bits_deBruijn32tab), ("math/bits.deBruijn64tab", laid_math_bits_deBruijn64tab), ("internal/strconv.uint64pow10", laid_internal_strconv_uint64pow10)], narrowed := true }
def JoinBackUptoSaid : Prop := joinBackUptoRow.holds Tryz.pinned (OpenSpec.upto joinBackSpec)

/-- 'hopmeshtop.TopJoins', WHERE WHAT IT READS IS OF BULK AT MOST 1048576: true; the input reads as it did. -/
def topJoinsUptoRow : OpenClaim := { program := "ytdbcbclapipgdaagreatdoor", sum := "32a8b118df4967efff6ff6f6816379bb104639c41084aaa06057d5c6f3c611e9", func := "hopmesh/hopmeshtop.TopJoins", spec := "topJoins", unfollowed := true, recurses := true, named := ["internal/strconv.uint64pow10", "math/bits.deBruijn32tab", "math/bits.deBruijn64tab"], apart := false, laid := [("math/bits.deBruijn32tab", laid_math_bits_deBruijn32tab), ("math/bits.deBruijn64tab", laid_math_bits_deBruijn64tab), ("internal/strconv.uint64pow10", laid_internal_strconv_uint64pow10)], narrowed := true }
def TopJoinsUptoSaid : Prop := topJoinsUptoRow.holds Tryz.pinned (OpenSpec.upto topJoinsSpec)

end Rows
end Go.Proofs.YtdbcbclapipgdaaGreatDoor
