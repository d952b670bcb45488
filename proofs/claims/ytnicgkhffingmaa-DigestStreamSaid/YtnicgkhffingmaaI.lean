/- The types and functions of this seat, for the walks. -/
import Derived.Test.YtnicgkhffingmaaProg
import Derived.Test.YtnicgkhffingmaaVE
set_option linter.unusedVariables false
set_option linter.unusedSimpArgs false
namespace Go.Proofs.Ytnicgkhffingmaa
open Go Av
instance : Ty Try.prog 0 (TypeDesc.tuple #[]) := ⟨Try.underlying0⟩
instance : Ty Try.prog 1 (TypeDesc.func #[] #[] false) := ⟨Try.underlying1⟩
instance : TyI Try.prog 1 1 8 [.nilFunc] := ⟨by kernel_rfl⟩
instance : Ty Try.prog 2 (TypeDesc.int IntKind.i64) := ⟨Try.underlying2⟩
instance : TyI Try.prog 2 1 8 [.int .i64 0] := ⟨by kernel_rfl⟩
instance : Ty Try.prog 3 (TypeDesc.int IntKind.i64) := ⟨Try.underlying3⟩
instance : TyI Try.prog 3 1 8 [.int .i64 0] := ⟨by kernel_rfl⟩
instance : Ty Try.prog 4 (TypeDesc.bool) := ⟨Try.underlying4⟩
instance : TyI Try.prog 4 1 1 [.bool false] := ⟨by kernel_rfl⟩
instance : Ty Try.prog 5 (TypeDesc.int IntKind.u8) := ⟨Try.underlying5⟩
instance : TyI Try.prog 5 1 1 [.int .u8 0] := ⟨by kernel_rfl⟩
instance : Ty Try.prog 6 (TypeDesc.int IntKind.u8) := ⟨Try.underlying6⟩
instance : TyI Try.prog 6 1 1 [.int .u8 0] := ⟨by kernel_rfl⟩
instance : Ty Try.prog 7 (TypeDesc.struct #[{ name := "x", type := 2, offset := 0, embedded := false, tag := "", pkgPath := "runtime", byteOffset := 0 }, { name := "y", type := 3, offset := 1, embedded := false, tag := "", pkgPath := "runtime", byteOffset := 8 }, { name := "signed", type := 4, offset := 2, embedded := false, tag := "", pkgPath := "runtime", byteOffset := 16 }, { name := "code", type := 6, offset := 3, embedded := false, tag := "", pkgPath := "runtime", byteOffset := 17 }]) := ⟨Try.underlying7⟩
instance : TyF Try.prog 7 [(2, 0), (3, 1), (4, 2), (6, 3)] := ⟨_, Try.underlying7, rfl⟩
instance : TyP Try.prog 7 [(0, 1), (1, 1), (2, 1), (3, 1)] := ⟨_, Try.underlying7, by kernel_rfl⟩
instance : TyI Try.prog 7 4 24 [.int .i64 0, .int .i64 0, .bool false, .int .u8 0] := ⟨by kernel_rfl⟩
instance : Ty Try.prog 8 (TypeDesc.struct #[{ name := "x", type := 2, offset := 0, embedded := false, tag := "", pkgPath := "runtime", byteOffset := 0 }, { name := "y", type := 3, offset := 1, embedded := false, tag := "", pkgPath := "runtime", byteOffset := 8 }, { name := "signed", type := 4, offset := 2, embedded := false, tag := "", pkgPath := "runtime", byteOffset := 16 }, { name := "code", type := 6, offset := 3, embedded := false, tag := "", pkgPath := "runtime", byteOffset := 17 }]) := ⟨Try.underlying8⟩
instance : TyF Try.prog 8 [(2, 0), (3, 1), (4, 2), (6, 3)] := ⟨_, Try.underlying8, rfl⟩
instance : TyP Try.prog 8 [(0, 1), (1, 1), (2, 1), (3, 1)] := ⟨_, Try.underlying8, by kernel_rfl⟩
instance : TyI Try.prog 8 4 24 [.int .i64 0, .int .i64 0, .bool false, .int .u8 0] := ⟨by kernel_rfl⟩
instance : Ty Try.prog 9 (TypeDesc.string) := ⟨Try.underlying9⟩
instance : TyI Try.prog 9 1 16 [.string .empty] := ⟨by kernel_rfl⟩
instance : Ty Try.prog 10 (TypeDesc.string) := ⟨Try.underlying10⟩
instance : TyI Try.prog 10 1 16 [.string .empty] := ⟨by kernel_rfl⟩
instance : Ty Try.prog 11 (TypeDesc.string) := ⟨Try.underlying11⟩
instance : TyI Try.prog 11 1 16 [.string .empty] := ⟨by kernel_rfl⟩
instance : Ty Try.prog 12 (TypeDesc.int IntKind.u64) := ⟨Try.underlying12⟩
instance : TyI Try.prog 12 1 8 [.int .u64 0] := ⟨by kernel_rfl⟩
instance : Ty Try.prog 13 (TypeDesc.struct #[{ name := "msg", type := 9, offset := 0, embedded := false, tag := "", pkgPath := "runtime", byteOffset := 0 }, { name := "addr", type := 12, offset := 1, embedded := false, tag := "", pkgPath := "runtime", byteOffset := 16 }]) := ⟨Try.underlying13⟩
instance : TyF Try.prog 13 [(9, 0), (12, 1)] := ⟨_, Try.underlying13, rfl⟩
instance : TyP Try.prog 13 [(0, 1), (1, 1)] := ⟨_, Try.underlying13, by kernel_rfl⟩
instance : TyI Try.prog 13 2 24 [.string .empty, .int .u64 0] := ⟨by kernel_rfl⟩
instance : Ty Try.prog 14 (TypeDesc.struct #[{ name := "msg", type := 9, offset := 0, embedded := false, tag := "", pkgPath := "runtime", byteOffset := 0 }, { name := "addr", type := 12, offset := 1, embedded := false, tag := "", pkgPath := "runtime", byteOffset := 16 }]) := ⟨Try.underlying14⟩
instance : TyF Try.prog 14 [(9, 0), (12, 1)] := ⟨_, Try.underlying14, rfl⟩
instance : TyP Try.prog 14 [(0, 1), (1, 1)] := ⟨_, Try.underlying14, by kernel_rfl⟩
instance : TyI Try.prog 14 2 24 [.string .empty, .int .u64 0] := ⟨by kernel_rfl⟩
instance : Ty Try.prog 15 (TypeDesc.pointer 62) := ⟨Try.underlying15⟩
instance : TyI Try.prog 15 1 8 [.pointer none] := ⟨by kernel_rfl⟩
instance : Ty Try.prog 16 (TypeDesc.pointer 65) := ⟨Try.underlying16⟩
instance : TyI Try.prog 16 1 8 [.pointer none] := ⟨by kernel_rfl⟩
instance : Ty Try.prog 17 (TypeDesc.pointer 74) := ⟨Try.underlying17⟩
instance : TyI Try.prog 17 1 8 [.pointer none] := ⟨by kernel_rfl⟩
instance : Ty Try.prog 18 (TypeDesc.struct #[{ name := "typ", type := 17, offset := 0, embedded := false, tag := "", pkgPath := "internal/runtime/maps", byteOffset := 0 }]) := ⟨Try.underlying18⟩
instance : TyF Try.prog 18 [(17, 0)] := ⟨_, Try.underlying18, rfl⟩
instance : TyP Try.prog 18 [(0, 1)] := ⟨_, Try.underlying18, by kernel_rfl⟩
instance : TyI Try.prog 18 1 8 [.pointer none] := ⟨by kernel_rfl⟩
instance : Ty Try.prog 19 (TypeDesc.struct #[{ name := "typ", type := 17, offset := 0, embedded := false, tag := "", pkgPath := "internal/runtime/maps", byteOffset := 0 }]) := ⟨Try.underlying19⟩
instance : TyF Try.prog 19 [(17, 0)] := ⟨_, Try.underlying19, rfl⟩
instance : TyP Try.prog 19 [(0, 1)] := ⟨_, Try.underlying19, by kernel_rfl⟩
instance : TyI Try.prog 19 1 8 [.pointer none] := ⟨by kernel_rfl⟩
instance : Ty Try.prog 20 (TypeDesc.interface #[]) := ⟨Try.underlying20⟩
instance : TyI Try.prog 20 1 16 [.nilIface] := ⟨by kernel_rfl⟩
instance : Ty Try.prog 21 (TypeDesc.int IntKind.i32) := ⟨Try.underlying21⟩
instance : TyI Try.prog 21 1 4 [.int .i32 0] := ⟨by kernel_rfl⟩
instance : Ty Try.prog 22 (TypeDesc.slice 26) := ⟨Try.underlying22⟩
instance : TyI Try.prog 22 1 24 [.slice none 0 0] := ⟨by kernel_rfl⟩
instance : Ty Try.prog 23 (TypeDesc.func #[] #[4] false) := ⟨Try.underlying23⟩
instance : TyI Try.prog 23 1 8 [.nilFunc] := ⟨by kernel_rfl⟩
instance : Ty Try.prog 24 (TypeDesc.pointer 45) := ⟨Try.underlying24⟩
instance : TyI Try.prog 24 1 8 [.pointer none] := ⟨by kernel_rfl⟩
instance : Ty Try.prog 25 (TypeDesc.func #[] #[24] false) := ⟨Try.underlying25⟩
instance : TyI Try.prog 25 1 8 [.nilFunc] := ⟨by kernel_rfl⟩
instance : Ty Try.prog 26 (TypeDesc.slice 9) := ⟨Try.underlying26⟩
instance : TyI Try.prog 26 1 24 [.slice none 0 0] := ⟨by kernel_rfl⟩
instance : Ty Try.prog 27 (TypeDesc.func #[26] #[3] true) := ⟨Try.underlying27⟩
instance : TyI Try.prog 27 1 8 [.nilFunc] := ⟨by kernel_rfl⟩
instance : Ty Try.prog 28 (TypeDesc.func #[] #[9] false) := ⟨Try.underlying28⟩
instance : TyI Try.prog 28 1 8 [.nilFunc] := ⟨by kernel_rfl⟩
instance : Ty Try.prog 29 (TypeDesc.func #[9] #[9] false) := ⟨Try.underlying29⟩
instance : TyI Try.prog 29 1 8 [.nilFunc] := ⟨by kernel_rfl⟩
instance : Ty Try.prog 30 (TypeDesc.func #[22] #[4] false) := ⟨Try.underlying30⟩
instance : TyI Try.prog 30 1 8 [.nilFunc] := ⟨by kernel_rfl⟩
instance : Ty Try.prog 31 (TypeDesc.int IntKind.i64) := ⟨Try.underlying31⟩
instance : TyI Try.prog 31 1 8 [.int .i64 0] := ⟨by kernel_rfl⟩
instance : Ty Try.prog 32 (TypeDesc.tuple #[9, 31]) := ⟨Try.underlying32⟩
instance : Ty Try.prog 33 (TypeDesc.func #[9] #[9, 31] false) := ⟨Try.underlying33⟩
instance : TyI Try.prog 33 1 8 [.nilFunc] := ⟨by kernel_rfl⟩
instance : Ty Try.prog 34 (TypeDesc.func #[9, 9] #[9, 31] false) := ⟨Try.underlying34⟩
instance : TyI Try.prog 34 1 8 [.nilFunc] := ⟨by kernel_rfl⟩
instance : Ty Try.prog 35 (TypeDesc.int IntKind.u32) := ⟨Try.underlying35⟩
instance : TyI Try.prog 35 1 4 [.int .u32 0] := ⟨by kernel_rfl⟩
instance : Ty Try.prog 36 (TypeDesc.array 4 35) := ⟨Try.underlying36⟩
instance : TyI Try.prog 36 4 16 [.int .u32 0, .int .u32 0, .int .u32 0, .int .u32 0] := ⟨by kernel_rfl⟩
instance : Ty Try.prog 37 (TypeDesc.func #[36, 35, 35] #[36] false) := ⟨Try.underlying37⟩
instance : TyI Try.prog 37 1 8 [.nilFunc] := ⟨by kernel_rfl⟩
instance : Ty Try.prog 38 (TypeDesc.array 8 35) := ⟨Try.underlying38⟩
instance : TyI Try.prog 38 8 32 [.int .u32 0, .int .u32 0, .int .u32 0, .int .u32 0, .int .u32 0, .int .u32 0, .int .u32 0, .int .u32 0] := ⟨by kernel_rfl⟩
instance : Ty Try.prog 39 (TypeDesc.slice 5) := ⟨Try.underlying39⟩
instance : TyI Try.prog 39 1 24 [.slice none 0 0] := ⟨by kernel_rfl⟩
instance : Ty Try.prog 40 (TypeDesc.int IntKind.u64) := ⟨Try.underlying40⟩
instance : TyI Try.prog 40 1 8 [.int .u64 0] := ⟨by kernel_rfl⟩
instance : Ty Try.prog 41 (TypeDesc.struct #[{ name := "chain", type := 38, offset := 0, embedded := false, tag := "", pkgPath := "hopmesh/digest", byteOffset := 0 }, { name := "rest", type := 39, offset := 8, embedded := false, tag := "", pkgPath := "hopmesh/digest", byteOffset := 32 }, { name := "count", type := 40, offset := 9, embedded := false, tag := "", pkgPath := "hopmesh/digest", byteOffset := 56 }]) := ⟨Try.underlying41⟩
instance : TyF Try.prog 41 [(38, 0), (39, 8), (40, 9)] := ⟨_, Try.underlying41, rfl⟩
instance : TyP Try.prog 41 [(0, 8), (8, 1), (9, 1)] := ⟨_, Try.underlying41, by kernel_rfl⟩
instance : TyI Try.prog 41 10 64 [.int .u32 0, .int .u32 0, .int .u32 0, .int .u32 0, .int .u32 0, .int .u32 0, .int .u32 0, .int .u32 0, .slice none 0 0, .int .u64 0] := ⟨by kernel_rfl⟩
instance : Ty Try.prog 42 (TypeDesc.struct #[{ name := "chain", type := 38, offset := 0, embedded := false, tag := "", pkgPath := "hopmesh/digest", byteOffset := 0 }, { name := "rest", type := 39, offset := 8, embedded := false, tag := "", pkgPath := "hopmesh/digest", byteOffset := 32 }, { name := "count", type := 40, offset := 9, embedded := false, tag := "", pkgPath := "hopmesh/digest", byteOffset := 56 }]) := ⟨Try.underlying42⟩
instance : TyF Try.prog 42 [(38, 0), (39, 8), (40, 9)] := ⟨_, Try.underlying42, rfl⟩
instance : TyP Try.prog 42 [(0, 8), (8, 1), (9, 1)] := ⟨_, Try.underlying42, by kernel_rfl⟩
instance : TyI Try.prog 42 10 64 [.int .u32 0, .int .u32 0, .int .u32 0, .int .u32 0, .int .u32 0, .int .u32 0, .int .u32 0, .int .u32 0, .slice none 0 0, .int .u64 0] := ⟨by kernel_rfl⟩
instance : Ty Try.prog 43 (TypeDesc.func #[9] #[42] false) := ⟨Try.underlying43⟩
instance : TyI Try.prog 43 1 8 [.nilFunc] := ⟨by kernel_rfl⟩
instance : Ty Try.prog 44 (TypeDesc.struct #[{ name := "state", type := 42, offset := 0, embedded := false, tag := "", pkgPath := "hopmesh/digest", byteOffset := 0 }, { name := "taken", type := 3, offset := 10, embedded := false, tag := "", pkgPath := "hopmesh/digest", byteOffset := 64 }]) := ⟨Try.underlying44⟩
instance : TyF Try.prog 44 [(42, 0), (3, 10)] := ⟨_, Try.underlying44, rfl⟩
instance : TyP Try.prog 44 [(0, 10), (10, 1)] := ⟨_, Try.underlying44, by kernel_rfl⟩
instance : TyI Try.prog 44 11 72 [.int .u32 0, .int .u32 0, .int .u32 0, .int .u32 0, .int .u32 0, .int .u32 0, .int .u32 0, .int .u32 0, .slice none 0 0, .int .u64 0, .int .i64 0] := ⟨by kernel_rfl⟩
instance : Ty Try.prog 45 (TypeDesc.struct #[{ name := "state", type := 42, offset := 0, embedded := false, tag := "", pkgPath := "hopmesh/digest", byteOffset := 0 }, { name := "taken", type := 3, offset := 10, embedded := false, tag := "", pkgPath := "hopmesh/digest", byteOffset := 64 }]) := ⟨Try.underlying45⟩
instance : TyF Try.prog 45 [(42, 0), (3, 10)] := ⟨_, Try.underlying45, rfl⟩
instance : TyP Try.prog 45 [(0, 10), (10, 1)] := ⟨_, Try.underlying45, by kernel_rfl⟩
instance : TyI Try.prog 45 11 72 [.int .u32 0, .int .u32 0, .int .u32 0, .int .u32 0, .int .u32 0, .int .u32 0, .int .u32 0, .int .u32 0, .slice none 0 0, .int .u64 0, .int .i64 0] := ⟨by kernel_rfl⟩
instance : Ty Try.prog 46 (TypeDesc.func #[9] #[] false) := ⟨Try.underlying46⟩
instance : TyI Try.prog 46 1 8 [.nilFunc] := ⟨by kernel_rfl⟩
instance : Ty Try.prog 47 (TypeDesc.int IntKind.u64) := ⟨Try.underlying47⟩
instance : TyI Try.prog 47 1 8 [.int .u64 0] := ⟨by kernel_rfl⟩
instance : Ty Try.prog 48 (TypeDesc.func #[5] #[3] false) := ⟨Try.underlying48⟩
instance : TyI Try.prog 48 1 8 [.nilFunc] := ⟨by kernel_rfl⟩
instance : Ty Try.prog 49 (TypeDesc.func #[35, 3] #[35] false) := ⟨Try.underlying49⟩
instance : TyI Try.prog 49 1 8 [.nilFunc] := ⟨by kernel_rfl⟩
instance : Ty Try.prog 50 (TypeDesc.func #[] #[38] false) := ⟨Try.underlying50⟩
instance : TyI Try.prog 50 1 8 [.nilFunc] := ⟨by kernel_rfl⟩
instance : Ty Try.prog 51 (TypeDesc.pointer 42) := ⟨Try.underlying51⟩
instance : TyI Try.prog 51 1 8 [.pointer none] := ⟨by kernel_rfl⟩
instance : Ty Try.prog 52 (TypeDesc.func #[38, 53, 40, 4] #[38] false) := ⟨Try.underlying52⟩
instance : TyI Try.prog 52 1 8 [.nilFunc] := ⟨by kernel_rfl⟩
instance : Ty Try.prog 53 (TypeDesc.array 16 35) := ⟨Try.underlying53⟩
instance : TyI Try.prog 53 16 64 [.int .u32 0, .int .u32 0, .int .u32 0, .int .u32 0, .int .u32 0, .int .u32 0, .int .u32 0, .int .u32 0, .int .u32 0, .int .u32 0, .int .u32 0, .int .u32 0, .int .u32 0, .int .u32 0, .int .u32 0, .int .u32 0] := ⟨by kernel_rfl⟩
instance : Ty Try.prog 54 (TypeDesc.func #[39] #[53] false) := ⟨Try.underlying54⟩
instance : TyI Try.prog 54 1 8 [.nilFunc] := ⟨by kernel_rfl⟩
instance : Ty Try.prog 55 (TypeDesc.slice 35) := ⟨Try.underlying55⟩
instance : TyI Try.prog 55 1 24 [.slice none 0 0] := ⟨by kernel_rfl⟩
instance : Ty Try.prog 56 (TypeDesc.func #[3] #[9] false) := ⟨Try.underlying56⟩
instance : TyI Try.prog 56 1 8 [.nilFunc] := ⟨by kernel_rfl⟩
instance : Ty Try.prog 57 (TypeDesc.array 4 3) := ⟨Try.underlying57⟩
instance : TyI Try.prog 57 4 32 [.int .i64 0, .int .i64 0, .int .i64 0, .int .i64 0] := ⟨by kernel_rfl⟩
instance : Ty Try.prog 58 (TypeDesc.func #[3] #[57] false) := ⟨Try.underlying58⟩
instance : TyI Try.prog 58 1 8 [.nilFunc] := ⟨by kernel_rfl⟩
instance : Ty Try.prog 59 (TypeDesc.array 10 9) := ⟨Try.underlying59⟩
instance : TyI Try.prog 59 10 160 [.string .empty, .string .empty, .string .empty, .string .empty, .string .empty, .string .empty, .string .empty, .string .empty, .string .empty, .string .empty] := ⟨by kernel_rfl⟩
instance : Ty Try.prog 60 (TypeDesc.array 8 57) := ⟨Try.underlying60⟩
instance : TyI Try.prog 60 32 256 [.int .i64 0, .int .i64 0, .int .i64 0, .int .i64 0, .int .i64 0, .int .i64 0, .int .i64 0, .int .i64 0, .int .i64 0, .int .i64 0, .int .i64 0, .int .i64 0, .int .i64 0, .int .i64 0, .int .i64 0, .int .i64 0, .int .i64 0, .int .i64 0, .int .i64 0, .int .i64 0, .int .i64 0, .int .i64 0, .int .i64 0, .int .i64 0, .int .i64 0, .int .i64 0, .int .i64 0, .int .i64 0, .int .i64 0, .int .i64 0, .int .i64 0, .int .i64 0] := ⟨by kernel_rfl⟩
instance : Ty Try.prog 61 (TypeDesc.struct #[{ name := "_interface", type := 17, offset := 0, embedded := false, tag := "", pkgPath := "runtime", byteOffset := 0 }, { name := "concrete", type := 17, offset := 1, embedded := false, tag := "", pkgPath := "runtime", byteOffset := 8 }, { name := "asserted", type := 17, offset := 2, embedded := false, tag := "", pkgPath := "runtime", byteOffset := 16 }, { name := "missingMethod", type := 9, offset := 3, embedded := false, tag := "", pkgPath := "runtime", byteOffset := 24 }]) := ⟨Try.underlying61⟩
instance : TyF Try.prog 61 [(17, 0), (17, 1), (17, 2), (9, 3)] := ⟨_, Try.underlying61, rfl⟩
instance : TyP Try.prog 61 [(0, 1), (1, 1), (2, 1), (3, 1)] := ⟨_, Try.underlying61, by kernel_rfl⟩
instance : TyI Try.prog 61 4 40 [.pointer none, .pointer none, .pointer none, .string .empty] := ⟨by kernel_rfl⟩
instance : Ty Try.prog 62 (TypeDesc.struct #[{ name := "_interface", type := 17, offset := 0, embedded := false, tag := "", pkgPath := "runtime", byteOffset := 0 }, { name := "concrete", type := 17, offset := 1, embedded := false, tag := "", pkgPath := "runtime", byteOffset := 8 }, { name := "asserted", type := 17, offset := 2, embedded := false, tag := "", pkgPath := "runtime", byteOffset := 16 }, { name := "missingMethod", type := 9, offset := 3, embedded := false, tag := "", pkgPath := "runtime", byteOffset := 24 }]) := ⟨Try.underlying62⟩
instance : TyF Try.prog 62 [(17, 0), (17, 1), (17, 2), (9, 3)] := ⟨_, Try.underlying62, rfl⟩
instance : TyP Try.prog 62 [(0, 1), (1, 1), (2, 1), (3, 1)] := ⟨_, Try.underlying62, by kernel_rfl⟩
instance : TyI Try.prog 62 4 40 [.pointer none, .pointer none, .pointer none, .string .empty] := ⟨by kernel_rfl⟩
instance : Ty Try.prog 63 (TypeDesc.array 0 16) := ⟨Try.underlying63⟩
instance : Ty Try.prog 64 (TypeDesc.struct #[{ name := "_", type := 63, offset := 0, embedded := false, tag := "", pkgPath := "runtime", byteOffset := 0 }]) := ⟨Try.underlying64⟩
instance : TyF Try.prog 64 [(63, 0)] := ⟨_, Try.underlying64, rfl⟩
instance : TyP Try.prog 64 [(0, 0)] := ⟨_, Try.underlying64, by kernel_rfl⟩
instance : Ty Try.prog 65 (TypeDesc.struct #[{ name := "_", type := 63, offset := 0, embedded := false, tag := "", pkgPath := "runtime", byteOffset := 0 }]) := ⟨Try.underlying65⟩
instance : TyF Try.prog 65 [(63, 0)] := ⟨_, Try.underlying65, rfl⟩
instance : TyP Try.prog 65 [(0, 0)] := ⟨_, Try.underlying65, by kernel_rfl⟩
instance : Ty Try.prog 66 (TypeDesc.func #[] #[3] false) := ⟨Try.underlying66⟩
instance : TyI Try.prog 66 1 8 [.nilFunc] := ⟨by kernel_rfl⟩
instance : Ty Try.prog 67 (TypeDesc.int IntKind.u8) := ⟨Try.underlying67⟩
instance : TyI Try.prog 67 1 1 [.int .u8 0] := ⟨by kernel_rfl⟩
instance : Ty Try.prog 68 (TypeDesc.int IntKind.u8) := ⟨Try.underlying68⟩
instance : TyI Try.prog 68 1 1 [.int .u8 0] := ⟨by kernel_rfl⟩
instance : Ty Try.prog 69 (TypeDesc.func #[75, 75] #[4] false) := ⟨Try.underlying69⟩
instance : TyI Try.prog 69 1 8 [.nilFunc] := ⟨by kernel_rfl⟩
instance : Ty Try.prog 70 (TypeDesc.pointer 5) := ⟨Try.underlying70⟩
instance : TyI Try.prog 70 1 8 [.pointer none] := ⟨by kernel_rfl⟩
instance : Ty Try.prog 71 (TypeDesc.int IntKind.i32) := ⟨Try.underlying71⟩
instance : TyI Try.prog 71 1 4 [.int .i32 0] := ⟨by kernel_rfl⟩
instance : Ty Try.prog 72 (TypeDesc.int IntKind.i32) := ⟨Try.underlying72⟩
instance : TyI Try.prog 72 1 4 [.int .i32 0] := ⟨by kernel_rfl⟩
instance : Ty Try.prog 73 (TypeDesc.struct #[{ name := "Size_", type := 12, offset := 0, embedded := false, tag := "", pkgPath := "", byteOffset := 0 }, { name := "PtrBytes", type := 12, offset := 1, embedded := false, tag := "", pkgPath := "", byteOffset := 8 }, { name := "Hash", type := 35, offset := 2, embedded := false, tag := "", pkgPath := "", byteOffset := 16 }, { name := "TFlag", type := 67, offset := 3, embedded := false, tag := "", pkgPath := "", byteOffset := 20 }, { name := "Align_", type := 5, offset := 4, embedded := false, tag := "", pkgPath := "", byteOffset := 21 }, { name := "FieldAlign_", type := 5, offset := 5, embedded := false, tag := "", pkgPath := "", byteOffset := 22 }, { name := "Kind_", type := 68, offset := 6, embedded := false, tag := "", pkgPath := "", byteOffset := 23 }, { name := "Equal", type := 69, offset := 7, embedded := false, tag := "", pkgPath := "", byteOffset := 24 }, { name := "GCData", type := 70, offset := 8, embedded := false, tag := "", pkgPath := "", byteOffset := 32 }, { name := "Str", type := 71, offset := 9, embedded := false, tag := "", pkgPath := "", byteOffset := 40 }, { name := "PtrToThis", type := 72, offset := 10, embedded := false, tag := "", pkgPath := "", byteOffset := 44 }]) := ⟨Try.underlying73⟩
instance : TyF Try.prog 73 [(12, 0), (12, 1), (35, 2), (67, 3), (5, 4), (5, 5), (68, 6), (69, 7), (70, 8), (71, 9), (72, 10)] := ⟨_, Try.underlying73, rfl⟩
instance : TyP Try.prog 73 [(0, 1), (1, 1), (2, 1), (3, 1), (4, 1), (5, 1), (6, 1), (7, 1), (8, 1), (9, 1), (10, 1)] := ⟨_, Try.underlying73, by kernel_rfl⟩
instance : TyI Try.prog 73 11 48 [.int .u64 0, .int .u64 0, .int .u32 0, .int .u8 0, .int .u8 0, .int .u8 0, .int .u8 0, .nilFunc, .pointer none, .int .i32 0, .int .i32 0] := ⟨by kernel_rfl⟩
instance : Ty Try.prog 74 (TypeDesc.struct #[{ name := "Size_", type := 12, offset := 0, embedded := false, tag := "", pkgPath := "", byteOffset := 0 }, { name := "PtrBytes", type := 12, offset := 1, embedded := false, tag := "", pkgPath := "", byteOffset := 8 }, { name := "Hash", type := 35, offset := 2, embedded := false, tag := "", pkgPath := "", byteOffset := 16 }, { name := "TFlag", type := 67, offset := 3, embedded := false, tag := "", pkgPath := "", byteOffset := 20 }, { name := "Align_", type := 5, offset := 4, embedded := false, tag := "", pkgPath := "", byteOffset := 21 }, { name := "FieldAlign_", type := 5, offset := 5, embedded := false, tag := "", pkgPath := "", byteOffset := 22 }, { name := "Kind_", type := 68, offset := 6, embedded := false, tag := "", pkgPath := "", byteOffset := 23 }, { name := "Equal", type := 69, offset := 7, embedded := false, tag := "", pkgPath := "", byteOffset := 24 }, { name := "GCData", type := 70, offset := 8, embedded := false, tag := "", pkgPath := "", byteOffset := 32 }, { name := "Str", type := 71, offset := 9, embedded := false, tag := "", pkgPath := "", byteOffset := 40 }, { name := "PtrToThis", type := 72, offset := 10, embedded := false, tag := "", pkgPath := "", byteOffset := 44 }]) := ⟨Try.underlying74⟩
instance : TyF Try.prog 74 [(12, 0), (12, 1), (35, 2), (67, 3), (5, 4), (5, 5), (68, 6), (69, 7), (70, 8), (71, 9), (72, 10)] := ⟨_, Try.underlying74, rfl⟩
instance : TyP Try.prog 74 [(0, 1), (1, 1), (2, 1), (3, 1), (4, 1), (5, 1), (6, 1), (7, 1), (8, 1), (9, 1), (10, 1)] := ⟨_, Try.underlying74, by kernel_rfl⟩
instance : TyI Try.prog 74 11 48 [.int .u64 0, .int .u64 0, .int .u32 0, .int .u8 0, .int .u8 0, .int .u8 0, .int .u8 0, .nilFunc, .pointer none, .int .i32 0, .int .i32 0] := ⟨by kernel_rfl⟩
instance : Ty Try.prog 75 (TypeDesc.unsafePointer) := ⟨Try.underlying75⟩
instance : FnI Try.prog 2 := ⟨_, Try.func2, by decide, by kernel_rfl⟩
instance : FnI Try.prog 3 := ⟨_, Try.func3, by decide, by kernel_rfl⟩
instance : FnI Try.prog 4 := ⟨_, Try.func4, by decide, by kernel_rfl⟩
instance : FnI Try.prog 5 := ⟨_, Try.func5, by decide, by kernel_rfl⟩
instance : FnI Try.prog 6 := ⟨_, Try.func6, by decide, by kernel_rfl⟩
instance : FnI Try.prog 7 := ⟨_, Try.func7, by decide, by kernel_rfl⟩
instance : FnI Try.prog 8 := ⟨_, Try.func8, by decide, by kernel_rfl⟩
instance : FnI Try.prog 9 := ⟨_, Try.func9, by decide, by kernel_rfl⟩
instance : FnI Try.prog 10 := ⟨_, Try.func10, by decide, by kernel_rfl⟩
instance : FnI Try.prog 11 := ⟨_, Try.func11, by decide, by kernel_rfl⟩
instance : FnI Try.prog 12 := ⟨_, Try.func12, by decide, by kernel_rfl⟩
instance : FnI Try.prog 13 := ⟨_, Try.func13, by decide, by kernel_rfl⟩
instance : FnI Try.prog 14 := ⟨_, Try.func14, by decide, by kernel_rfl⟩
instance : FnI Try.prog 15 := ⟨_, Try.func15, by decide, by kernel_rfl⟩
instance : FnI Try.prog 16 := ⟨_, Try.func16, by decide, by kernel_rfl⟩
instance : FnI Try.prog 17 := ⟨_, Try.func17, by decide, by kernel_rfl⟩
instance : FnI Try.prog 18 := ⟨_, Try.func18, by decide, by kernel_rfl⟩
instance : FnI Try.prog 19 := ⟨_, Try.func19, by decide, by kernel_rfl⟩
instance : FnI Try.prog 20 := ⟨_, Try.func20, by decide, by kernel_rfl⟩
instance : FnI Try.prog 21 := ⟨_, Try.func21, by decide, by kernel_rfl⟩
instance : FnI Try.prog 22 := ⟨_, Try.func22, by decide, by kernel_rfl⟩
end Go.Proofs.Ytnicgkhffingmaa
