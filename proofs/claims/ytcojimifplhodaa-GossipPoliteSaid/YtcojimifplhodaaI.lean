/- The types and functions of this seat, for the walks. -/
import Derived.Test.YtcojimifplhodaaProg
import Derived.Test.YtcojimifplhodaaVE
set_option linter.unusedVariables false
set_option linter.unusedSimpArgs false
namespace Go.Proofs.Ytcojimifplhodaa
open Go Av
instance : Ty Try.prog 0 (TypeDesc.tuple #[]) := ⟨Try.underlying0⟩
instance : Ty Try.prog 1 (TypeDesc.func #[] #[] false) := ⟨Try.underlying1⟩
instance : TyI Try.prog 1 1 8 [.nilFunc] := ⟨by kernel_rfl⟩
instance : Ty Try.prog 2 (TypeDesc.int IntKind.i64) := ⟨Try.underlying2⟩
instance : TyI Try.prog 2 1 8 [.int .i64 0] := ⟨by kernel_rfl⟩
instance : Ty Try.prog 3 (TypeDesc.int IntKind.i64) := ⟨Try.underlying3⟩
instance : TyI Try.prog 3 1 8 [.int .i64 0] := ⟨by kernel_rfl⟩
instance : Ty Try.prog 4 (TypeDesc.bool) := ⟨Try.underlying4⟩
instance : TyI Try.prog 4 1 1 [.bool false] := ⟨by kernel_rfl⟩
instance : Ty Try.prog 5 (TypeDesc.int IntKind.u8) := ⟨Try.underlying5⟩
instance : TyI Try.prog 5 1 1 [.int .u8 0] := ⟨by kernel_rfl⟩
instance : Ty Try.prog 6 (TypeDesc.int IntKind.u8) := ⟨Try.underlying6⟩
instance : TyI Try.prog 6 1 1 [.int .u8 0] := ⟨by kernel_rfl⟩
instance : Ty Try.prog 7 (TypeDesc.struct #[{ name := "x", type := 2, offset := 0, embedded := false, tag := "", pkgPath := "runtime", byteOffset := 0 }, { name := "y", type := 3, offset := 1, embedded := false, tag := "", pkgPath := "runtime", byteOffset := 8 }, { name := "signed", type := 4, offset := 2, embedded := false, tag := "", pkgPath := "runtime", byteOffset := 16 }, { name := "code", type := 6, offset := 3, embedded := false, tag := "", pkgPath := "runtime", byteOffset := 17 }]) := ⟨Try.underlying7⟩
instance : TyF Try.prog 7 [(2, 0), (3, 1), (4, 2), (6, 3)] := ⟨_, Try.underlying7, rfl⟩
instance : TyP Try.prog 7 [(0, 1), (1, 1), (2, 1), (3, 1)] := ⟨_, Try.underlying7, by kernel_rfl⟩
instance : TyI Try.prog 7 4 24 [.int .i64 0, .int .i64 0, .bool false, .int .u8 0] := ⟨by kernel_rfl⟩
instance : Ty Try.prog 8 (TypeDesc.struct #[{ name := "x", type := 2, offset := 0, embedded := false, tag := "", pkgPath := "runtime", byteOffset := 0 }, { name := "y", type := 3, offset := 1, embedded := false, tag := "", pkgPath := "runtime", byteOffset := 8 }, { name := "signed", type := 4, offset := 2, embedded := false, tag := "", pkgPath := "runtime", byteOffset := 16 }, { name := "code", type := 6, offset := 3, embedded := false, tag := "", pkgPath := "runtime", byteOffset := 17 }]) := ⟨Try.underlying8⟩
instance : TyF Try.prog 8 [(2, 0), (3, 1), (4, 2), (6, 3)] := ⟨_, Try.underlying8, rfl⟩
instance : TyP Try.prog 8 [(0, 1), (1, 1), (2, 1), (3, 1)] := ⟨_, Try.underlying8, by kernel_rfl⟩
instance : TyI Try.prog 8 4 24 [.int .i64 0, .int .i64 0, .bool false, .int .u8 0] := ⟨by kernel_rfl⟩
instance : Ty Try.prog 9 (TypeDesc.string) := ⟨Try.underlying9⟩
instance : TyI Try.prog 9 1 16 [.string .empty] := ⟨by kernel_rfl⟩
instance : Ty Try.prog 10 (TypeDesc.string) := ⟨Try.underlying10⟩
instance : TyI Try.prog 10 1 16 [.string .empty] := ⟨by kernel_rfl⟩
instance : Ty Try.prog 11 (TypeDesc.string) := ⟨Try.underlying11⟩
instance : TyI Try.prog 11 1 16 [.string .empty] := ⟨by kernel_rfl⟩
instance : Ty Try.prog 12 (TypeDesc.int IntKind.u64) := ⟨Try.underlying12⟩
instance : TyI Try.prog 12 1 8 [.int .u64 0] := ⟨by kernel_rfl⟩
instance : Ty Try.prog 13 (TypeDesc.struct #[{ name := "msg", type := 9, offset := 0, embedded := false, tag := "", pkgPath := "runtime", byteOffset := 0 }, { name := "addr", type := 12, offset := 1, embedded := false, tag := "", pkgPath := "runtime", byteOffset := 16 }]) := ⟨Try.underlying13⟩
instance : TyF Try.prog 13 [(9, 0), (12, 1)] := ⟨_, Try.underlying13, rfl⟩
instance : TyP Try.prog 13 [(0, 1), (1, 1)] := ⟨_, Try.underlying13, by kernel_rfl⟩
instance : TyI Try.prog 13 2 24 [.string .empty, .int .u64 0] := ⟨by kernel_rfl⟩
instance : Ty Try.prog 14 (TypeDesc.struct #[{ name := "msg", type := 9, offset := 0, embedded := false, tag := "", pkgPath := "runtime", byteOffset := 0 }, { name := "addr", type := 12, offset := 1, embedded := false, tag := "", pkgPath := "runtime", byteOffset := 16 }]) := ⟨Try.underlying14⟩
instance : TyF Try.prog 14 [(9, 0), (12, 1)] := ⟨_, Try.underlying14, rfl⟩
instance : TyP Try.prog 14 [(0, 1), (1, 1)] := ⟨_, Try.underlying14, by kernel_rfl⟩
instance : TyI Try.prog 14 2 24 [.string .empty, .int .u64 0] := ⟨by kernel_rfl⟩
instance : Ty Try.prog 15 (TypeDesc.pointer 58) := ⟨Try.underlying15⟩
instance : TyI Try.prog 15 1 8 [.pointer none] := ⟨by kernel_rfl⟩
instance : Ty Try.prog 16 (TypeDesc.pointer 61) := ⟨Try.underlying16⟩
instance : TyI Try.prog 16 1 8 [.pointer none] := ⟨by kernel_rfl⟩
instance : Ty Try.prog 17 (TypeDesc.pointer 70) := ⟨Try.underlying17⟩
instance : TyI Try.prog 17 1 8 [.pointer none] := ⟨by kernel_rfl⟩
instance : Ty Try.prog 18 (TypeDesc.struct #[{ name := "typ", type := 17, offset := 0, embedded := false, tag := "", pkgPath := "internal/runtime/maps", byteOffset := 0 }]) := ⟨Try.underlying18⟩
instance : TyF Try.prog 18 [(17, 0)] := ⟨_, Try.underlying18, rfl⟩
instance : TyP Try.prog 18 [(0, 1)] := ⟨_, Try.underlying18, by kernel_rfl⟩
instance : TyI Try.prog 18 1 8 [.pointer none] := ⟨by kernel_rfl⟩
instance : Ty Try.prog 19 (TypeDesc.struct #[{ name := "typ", type := 17, offset := 0, embedded := false, tag := "", pkgPath := "internal/runtime/maps", byteOffset := 0 }]) := ⟨Try.underlying19⟩
instance : TyF Try.prog 19 [(17, 0)] := ⟨_, Try.underlying19, rfl⟩
instance : TyP Try.prog 19 [(0, 1)] := ⟨_, Try.underlying19, by kernel_rfl⟩
instance : TyI Try.prog 19 1 8 [.pointer none] := ⟨by kernel_rfl⟩
instance : Ty Try.prog 20 (TypeDesc.interface #[]) := ⟨Try.underlying20⟩
instance : TyI Try.prog 20 1 16 [.nilIface] := ⟨by kernel_rfl⟩
instance : Ty Try.prog 21 (TypeDesc.int IntKind.i32) := ⟨Try.underlying21⟩
instance : TyI Try.prog 21 1 4 [.int .i32 0] := ⟨by kernel_rfl⟩
instance : Ty Try.prog 22 (TypeDesc.struct #[{ name := "Least", type := 3, offset := 0, embedded := false, tag := "", pkgPath := "", byteOffset := 0 }, { name := "Doublings", type := 3, offset := 1, embedded := false, tag := "", pkgPath := "", byteOffset := 8 }, { name := "Enough", type := 3, offset := 2, embedded := false, tag := "", pkgPath := "", byteOffset := 16 }]) := ⟨Try.underlying22⟩
instance : TyF Try.prog 22 [(3, 0), (3, 1), (3, 2)] := ⟨_, Try.underlying22, rfl⟩
instance : TyP Try.prog 22 [(0, 1), (1, 1), (2, 1)] := ⟨_, Try.underlying22, by kernel_rfl⟩
instance : TyI Try.prog 22 3 24 [.int .i64 0, .int .i64 0, .int .i64 0] := ⟨by kernel_rfl⟩
instance : Ty Try.prog 23 (TypeDesc.struct #[{ name := "Least", type := 3, offset := 0, embedded := false, tag := "", pkgPath := "", byteOffset := 0 }, { name := "Doublings", type := 3, offset := 1, embedded := false, tag := "", pkgPath := "", byteOffset := 8 }, { name := "Enough", type := 3, offset := 2, embedded := false, tag := "", pkgPath := "", byteOffset := 16 }]) := ⟨Try.underlying23⟩
instance : TyF Try.prog 23 [(3, 0), (3, 1), (3, 2)] := ⟨_, Try.underlying23, rfl⟩
instance : TyP Try.prog 23 [(0, 1), (1, 1), (2, 1)] := ⟨_, Try.underlying23, by kernel_rfl⟩
instance : TyI Try.prog 23 3 24 [.int .i64 0, .int .i64 0, .int .i64 0] := ⟨by kernel_rfl⟩
instance : Ty Try.prog 24 (TypeDesc.int IntKind.u32) := ⟨Try.underlying24⟩
instance : TyI Try.prog 24 1 4 [.int .u32 0] := ⟨by kernel_rfl⟩
instance : Ty Try.prog 25 (TypeDesc.slice 33) := ⟨Try.underlying25⟩
instance : TyI Try.prog 25 1 24 [.slice none 0 0] := ⟨by kernel_rfl⟩
instance : Ty Try.prog 26 (TypeDesc.func #[] #[4] false) := ⟨Try.underlying26⟩
instance : TyI Try.prog 26 1 8 [.nilFunc] := ⟨by kernel_rfl⟩
instance : Ty Try.prog 27 (TypeDesc.struct #[{ name := "Interval", type := 3, offset := 0, embedded := false, tag := "", pkgPath := "", byteOffset := 0 }, { name := "Begin", type := 3, offset := 1, embedded := false, tag := "", pkgPath := "", byteOffset := 8 }, { name := "Point", type := 3, offset := 2, embedded := false, tag := "", pkgPath := "", byteOffset := 16 }, { name := "Heard", type := 3, offset := 3, embedded := false, tag := "", pkgPath := "", byteOffset := 24 }]) := ⟨Try.underlying27⟩
instance : TyF Try.prog 27 [(3, 0), (3, 1), (3, 2), (3, 3)] := ⟨_, Try.underlying27, rfl⟩
instance : TyP Try.prog 27 [(0, 1), (1, 1), (2, 1), (3, 1)] := ⟨_, Try.underlying27, by kernel_rfl⟩
instance : TyI Try.prog 27 4 32 [.int .i64 0, .int .i64 0, .int .i64 0, .int .i64 0] := ⟨by kernel_rfl⟩
instance : Ty Try.prog 28 (TypeDesc.struct #[{ name := "Interval", type := 3, offset := 0, embedded := false, tag := "", pkgPath := "", byteOffset := 0 }, { name := "Begin", type := 3, offset := 1, embedded := false, tag := "", pkgPath := "", byteOffset := 8 }, { name := "Point", type := 3, offset := 2, embedded := false, tag := "", pkgPath := "", byteOffset := 16 }, { name := "Heard", type := 3, offset := 3, embedded := false, tag := "", pkgPath := "", byteOffset := 24 }]) := ⟨Try.underlying28⟩
instance : TyF Try.prog 28 [(3, 0), (3, 1), (3, 2), (3, 3)] := ⟨_, Try.underlying28, rfl⟩
instance : TyP Try.prog 28 [(0, 1), (1, 1), (2, 1), (3, 1)] := ⟨_, Try.underlying28, by kernel_rfl⟩
instance : TyE Try.prog 28 := ⟨_, Try.underlying28, rfl, by kernel_rfl, by kernel_rfl⟩
instance : TyI Try.prog 28 4 32 [.int .i64 0, .int .i64 0, .int .i64 0, .int .i64 0] := ⟨by kernel_rfl⟩
instance : Ty Try.prog 29 (TypeDesc.int IntKind.i64) := ⟨Try.underlying29⟩
instance : TyI Try.prog 29 1 8 [.int .i64 0] := ⟨by kernel_rfl⟩
instance : Ty Try.prog 30 (TypeDesc.tuple #[28, 29]) := ⟨Try.underlying30⟩
instance : Ty Try.prog 31 (TypeDesc.func #[23, 3, 24] #[28, 29] false) := ⟨Try.underlying31⟩
instance : TyI Try.prog 31 1 8 [.nilFunc] := ⟨by kernel_rfl⟩
instance : Ty Try.prog 32 (TypeDesc.struct #[{ name := "Hears", type := 4, offset := 0, embedded := false, tag := "", pkgPath := "", byteOffset := 0 }, { name := "Equal", type := 4, offset := 1, embedded := false, tag := "", pkgPath := "", byteOffset := 1 }, { name := "Random", type := 24, offset := 2, embedded := false, tag := "", pkgPath := "", byteOffset := 4 }]) := ⟨Try.underlying32⟩
instance : TyF Try.prog 32 [(4, 0), (4, 1), (24, 2)] := ⟨_, Try.underlying32, rfl⟩
instance : TyP Try.prog 32 [(0, 1), (1, 1), (2, 1)] := ⟨_, Try.underlying32, by kernel_rfl⟩
instance : TyI Try.prog 32 3 8 [.bool false, .bool false, .int .u32 0] := ⟨by kernel_rfl⟩
instance : Ty Try.prog 33 (TypeDesc.struct #[{ name := "Hears", type := 4, offset := 0, embedded := false, tag := "", pkgPath := "", byteOffset := 0 }, { name := "Equal", type := 4, offset := 1, embedded := false, tag := "", pkgPath := "", byteOffset := 1 }, { name := "Random", type := 24, offset := 2, embedded := false, tag := "", pkgPath := "", byteOffset := 4 }]) := ⟨Try.underlying33⟩
instance : TyF Try.prog 33 [(4, 0), (4, 1), (24, 2)] := ⟨_, Try.underlying33, rfl⟩
instance : TyP Try.prog 33 [(0, 1), (1, 1), (2, 1)] := ⟨_, Try.underlying33, by kernel_rfl⟩
instance : TyI Try.prog 33 3 8 [.bool false, .bool false, .int .u32 0] := ⟨by kernel_rfl⟩
instance : Ty Try.prog 34 (TypeDesc.tuple #[28, 4, 29]) := ⟨Try.underlying34⟩
instance : Ty Try.prog 35 (TypeDesc.func #[23, 28, 3, 24] #[28, 4, 29] false) := ⟨Try.underlying35⟩
instance : TyI Try.prog 35 1 8 [.nilFunc] := ⟨by kernel_rfl⟩
instance : Ty Try.prog 36 (TypeDesc.func #[23, 28, 4, 3, 24] #[28, 29] false) := ⟨Try.underlying36⟩
instance : TyI Try.prog 36 1 8 [.nilFunc] := ⟨by kernel_rfl⟩
instance : Ty Try.prog 37 (TypeDesc.func #[23, 3, 24, 25] #[4] false) := ⟨Try.underlying37⟩
instance : TyI Try.prog 37 1 8 [.nilFunc] := ⟨by kernel_rfl⟩
instance : Ty Try.prog 38 (TypeDesc.func #[23, 28] #[29] false) := ⟨Try.underlying38⟩
instance : TyI Try.prog 38 1 8 [.nilFunc] := ⟨by kernel_rfl⟩
instance : Ty Try.prog 39 (TypeDesc.func #[23] #[3] false) := ⟨Try.underlying39⟩
instance : TyI Try.prog 39 1 8 [.nilFunc] := ⟨by kernel_rfl⟩
instance : Ty Try.prog 40 (TypeDesc.slice 24) := ⟨Try.underlying40⟩
instance : TyI Try.prog 40 1 24 [.slice none 0 0] := ⟨by kernel_rfl⟩
instance : Ty Try.prog 41 (TypeDesc.func #[23] #[29] false) := ⟨Try.underlying41⟩
instance : TyI Try.prog 41 1 8 [.nilFunc] := ⟨by kernel_rfl⟩
instance : Ty Try.prog 42 (TypeDesc.func #[23, 3, 40] #[4] false) := ⟨Try.underlying42⟩
instance : TyI Try.prog 42 1 8 [.nilFunc] := ⟨by kernel_rfl⟩
instance : Ty Try.prog 43 (TypeDesc.func #[23, 28, 3, 24] #[4] false) := ⟨Try.underlying43⟩
instance : TyI Try.prog 43 1 8 [.nilFunc] := ⟨by kernel_rfl⟩
instance : Ty Try.prog 44 (TypeDesc.slice 28) := ⟨Try.underlying44⟩
instance : TyI Try.prog 44 1 24 [.slice none 0 0] := ⟨by kernel_rfl⟩
instance : Ty Try.prog 45 (TypeDesc.slice 3) := ⟨Try.underlying45⟩
instance : TyI Try.prog 45 1 24 [.slice none 0 0] := ⟨by kernel_rfl⟩
instance : Ty Try.prog 46 (TypeDesc.func #[45, 3] #[4] false) := ⟨Try.underlying46⟩
instance : TyI Try.prog 46 1 8 [.nilFunc] := ⟨by kernel_rfl⟩
instance : Ty Try.prog 47 (TypeDesc.func #[23, 40] #[4] false) := ⟨Try.underlying47⟩
instance : TyI Try.prog 47 1 8 [.nilFunc] := ⟨by kernel_rfl⟩
instance : Ty Try.prog 48 (TypeDesc.tuple #[3, 4, 29]) := ⟨Try.underlying48⟩
instance : Ty Try.prog 49 (TypeDesc.func #[23, 28, 3, 3] #[3, 4, 29] false) := ⟨Try.underlying49⟩
instance : TyI Try.prog 49 1 8 [.nilFunc] := ⟨by kernel_rfl⟩
instance : Ty Try.prog 50 (TypeDesc.func #[23, 3, 24, 5] #[4] false) := ⟨Try.underlying50⟩
instance : TyI Try.prog 50 1 8 [.nilFunc] := ⟨by kernel_rfl⟩
instance : Ty Try.prog 51 (TypeDesc.func #[3, 3, 24] #[28] false) := ⟨Try.underlying51⟩
instance : TyI Try.prog 51 1 8 [.nilFunc] := ⟨by kernel_rfl⟩
instance : Ty Try.prog 52 (TypeDesc.func #[23, 28, 3] #[29] false) := ⟨Try.underlying52⟩
instance : TyI Try.prog 52 1 8 [.nilFunc] := ⟨by kernel_rfl⟩
instance : Ty Try.prog 53 (TypeDesc.func #[23, 28] #[4] false) := ⟨Try.underlying53⟩
instance : TyI Try.prog 53 1 8 [.nilFunc] := ⟨by kernel_rfl⟩
instance : Ty Try.prog 54 (TypeDesc.func #[3, 3, 3] #[4] false) := ⟨Try.underlying54⟩
instance : TyI Try.prog 54 1 8 [.nilFunc] := ⟨by kernel_rfl⟩
instance : Ty Try.prog 55 (TypeDesc.func #[45, 3] #[3] false) := ⟨Try.underlying55⟩
instance : TyI Try.prog 55 1 8 [.nilFunc] := ⟨by kernel_rfl⟩
instance : Ty Try.prog 56 (TypeDesc.func #[] #[9] false) := ⟨Try.underlying56⟩
instance : TyI Try.prog 56 1 8 [.nilFunc] := ⟨by kernel_rfl⟩
instance : Ty Try.prog 57 (TypeDesc.struct #[{ name := "_interface", type := 17, offset := 0, embedded := false, tag := "", pkgPath := "runtime", byteOffset := 0 }, { name := "concrete", type := 17, offset := 1, embedded := false, tag := "", pkgPath := "runtime", byteOffset := 8 }, { name := "asserted", type := 17, offset := 2, embedded := false, tag := "", pkgPath := "runtime", byteOffset := 16 }, { name := "missingMethod", type := 9, offset := 3, embedded := false, tag := "", pkgPath := "runtime", byteOffset := 24 }]) := ⟨Try.underlying57⟩
instance : TyF Try.prog 57 [(17, 0), (17, 1), (17, 2), (9, 3)] := ⟨_, Try.underlying57, rfl⟩
instance : TyP Try.prog 57 [(0, 1), (1, 1), (2, 1), (3, 1)] := ⟨_, Try.underlying57, by kernel_rfl⟩
instance : TyI Try.prog 57 4 40 [.pointer none, .pointer none, .pointer none, .string .empty] := ⟨by kernel_rfl⟩
instance : Ty Try.prog 58 (TypeDesc.struct #[{ name := "_interface", type := 17, offset := 0, embedded := false, tag := "", pkgPath := "runtime", byteOffset := 0 }, { name := "concrete", type := 17, offset := 1, embedded := false, tag := "", pkgPath := "runtime", byteOffset := 8 }, { name := "asserted", type := 17, offset := 2, embedded := false, tag := "", pkgPath := "runtime", byteOffset := 16 }, { name := "missingMethod", type := 9, offset := 3, embedded := false, tag := "", pkgPath := "runtime", byteOffset := 24 }]) := ⟨Try.underlying58⟩
instance : TyF Try.prog 58 [(17, 0), (17, 1), (17, 2), (9, 3)] := ⟨_, Try.underlying58, rfl⟩
instance : TyP Try.prog 58 [(0, 1), (1, 1), (2, 1), (3, 1)] := ⟨_, Try.underlying58, by kernel_rfl⟩
instance : TyI Try.prog 58 4 40 [.pointer none, .pointer none, .pointer none, .string .empty] := ⟨by kernel_rfl⟩
instance : Ty Try.prog 59 (TypeDesc.array 0 16) := ⟨Try.underlying59⟩
instance : Ty Try.prog 60 (TypeDesc.struct #[{ name := "_", type := 59, offset := 0, embedded := false, tag := "", pkgPath := "runtime", byteOffset := 0 }]) := ⟨Try.underlying60⟩
instance : TyF Try.prog 60 [(59, 0)] := ⟨_, Try.underlying60, rfl⟩
instance : TyP Try.prog 60 [(0, 0)] := ⟨_, Try.underlying60, by kernel_rfl⟩
instance : Ty Try.prog 61 (TypeDesc.struct #[{ name := "_", type := 59, offset := 0, embedded := false, tag := "", pkgPath := "runtime", byteOffset := 0 }]) := ⟨Try.underlying61⟩
instance : TyF Try.prog 61 [(59, 0)] := ⟨_, Try.underlying61, rfl⟩
instance : TyP Try.prog 61 [(0, 0)] := ⟨_, Try.underlying61, by kernel_rfl⟩
instance : Ty Try.prog 62 (TypeDesc.func #[] #[3] false) := ⟨Try.underlying62⟩
instance : TyI Try.prog 62 1 8 [.nilFunc] := ⟨by kernel_rfl⟩
instance : Ty Try.prog 63 (TypeDesc.int IntKind.u8) := ⟨Try.underlying63⟩
instance : TyI Try.prog 63 1 1 [.int .u8 0] := ⟨by kernel_rfl⟩
instance : Ty Try.prog 64 (TypeDesc.int IntKind.u8) := ⟨Try.underlying64⟩
instance : TyI Try.prog 64 1 1 [.int .u8 0] := ⟨by kernel_rfl⟩
instance : Ty Try.prog 65 (TypeDesc.func #[71, 71] #[4] false) := ⟨Try.underlying65⟩
instance : TyI Try.prog 65 1 8 [.nilFunc] := ⟨by kernel_rfl⟩
instance : Ty Try.prog 66 (TypeDesc.pointer 5) := ⟨Try.underlying66⟩
instance : TyI Try.prog 66 1 8 [.pointer none] := ⟨by kernel_rfl⟩
instance : Ty Try.prog 67 (TypeDesc.int IntKind.i32) := ⟨Try.underlying67⟩
instance : TyI Try.prog 67 1 4 [.int .i32 0] := ⟨by kernel_rfl⟩
instance : Ty Try.prog 68 (TypeDesc.int IntKind.i32) := ⟨Try.underlying68⟩
instance : TyI Try.prog 68 1 4 [.int .i32 0] := ⟨by kernel_rfl⟩
instance : Ty Try.prog 69 (TypeDesc.struct #[{ name := "Size_", type := 12, offset := 0, embedded := false, tag := "", pkgPath := "", byteOffset := 0 }, { name := "PtrBytes", type := 12, offset := 1, embedded := false, tag := "", pkgPath := "", byteOffset := 8 }, { name := "Hash", type := 24, offset := 2, embedded := false, tag := "", pkgPath := "", byteOffset := 16 }, { name := "TFlag", type := 63, offset := 3, embedded := false, tag := "", pkgPath := "", byteOffset := 20 }, { name := "Align_", type := 5, offset := 4, embedded := false, tag := "", pkgPath := "", byteOffset := 21 }, { name := "FieldAlign_", type := 5, offset := 5, embedded := false, tag := "", pkgPath := "", byteOffset := 22 }, { name := "Kind_", type := 64, offset := 6, embedded := false, tag := "", pkgPath := "", byteOffset := 23 }, { name := "Equal", type := 65, offset := 7, embedded := false, tag := "", pkgPath := "", byteOffset := 24 }, { name := "GCData", type := 66, offset := 8, embedded := false, tag := "", pkgPath := "", byteOffset := 32 }, { name := "Str", type := 67, offset := 9, embedded := false, tag := "", pkgPath := "", byteOffset := 40 }, { name := "PtrToThis", type := 68, offset := 10, embedded := false, tag := "", pkgPath := "", byteOffset := 44 }]) := ⟨Try.underlying69⟩
instance : TyF Try.prog 69 [(12, 0), (12, 1), (24, 2), (63, 3), (5, 4), (5, 5), (64, 6), (65, 7), (66, 8), (67, 9), (68, 10)] := ⟨_, Try.underlying69, rfl⟩
instance : TyP Try.prog 69 [(0, 1), (1, 1), (2, 1), (3, 1), (4, 1), (5, 1), (6, 1), (7, 1), (8, 1), (9, 1), (10, 1)] := ⟨_, Try.underlying69, by kernel_rfl⟩
instance : TyI Try.prog 69 11 48 [.int .u64 0, .int .u64 0, .int .u32 0, .int .u8 0, .int .u8 0, .int .u8 0, .int .u8 0, .nilFunc, .pointer none, .int .i32 0, .int .i32 0] := ⟨by kernel_rfl⟩
instance : Ty Try.prog 70 (TypeDesc.struct #[{ name := "Size_", type := 12, offset := 0, embedded := false, tag := "", pkgPath := "", byteOffset := 0 }, { name := "PtrBytes", type := 12, offset := 1, embedded := false, tag := "", pkgPath := "", byteOffset := 8 }, { name := "Hash", type := 24, offset := 2, embedded := false, tag := "", pkgPath := "", byteOffset := 16 }, { name := "TFlag", type := 63, offset := 3, embedded := false, tag := "", pkgPath := "", byteOffset := 20 }, { name := "Align_", type := 5, offset := 4, embedded := false, tag := "", pkgPath := "", byteOffset := 21 }, { name := "FieldAlign_", type := 5, offset := 5, embedded := false, tag := "", pkgPath := "", byteOffset := 22 }, { name := "Kind_", type := 64, offset := 6, embedded := false, tag := "", pkgPath := "", byteOffset := 23 }, { name := "Equal", type := 65, offset := 7, embedded := false, tag := "", pkgPath := "", byteOffset := 24 }, { name := "GCData", type := 66, offset := 8, embedded := false, tag := "", pkgPath := "", byteOffset := 32 }, { name := "Str", type := 67, offset := 9, embedded := false, tag := "", pkgPath := "", byteOffset := 40 }, { name := "PtrToThis", type := 68, offset := 10, embedded := false, tag := "", pkgPath := "", byteOffset := 44 }]) := ⟨Try.underlying70⟩
instance : TyF Try.prog 70 [(12, 0), (12, 1), (24, 2), (63, 3), (5, 4), (5, 5), (64, 6), (65, 7), (66, 8), (67, 9), (68, 10)] := ⟨_, Try.underlying70, rfl⟩
instance : TyP Try.prog 70 [(0, 1), (1, 1), (2, 1), (3, 1), (4, 1), (5, 1), (6, 1), (7, 1), (8, 1), (9, 1), (10, 1)] := ⟨_, Try.underlying70, by kernel_rfl⟩
instance : TyI Try.prog 70 11 48 [.int .u64 0, .int .u64 0, .int .u32 0, .int .u8 0, .int .u8 0, .int .u8 0, .int .u8 0, .nilFunc, .pointer none, .int .i32 0, .int .i32 0] := ⟨by kernel_rfl⟩
instance : Ty Try.prog 71 (TypeDesc.unsafePointer) := ⟨Try.underlying71⟩
instance : FnI Try.prog 2 := ⟨_, Try.func2, by decide, by kernel_rfl⟩
instance : FnI Try.prog 3 := ⟨_, Try.func3, by decide, by kernel_rfl⟩
instance : FnI Try.prog 4 := ⟨_, Try.func4, by decide, by kernel_rfl⟩
instance : FnI Try.prog 5 := ⟨_, Try.func5, by decide, by kernel_rfl⟩
instance : FnI Try.prog 6 := ⟨_, Try.func6, by decide, by kernel_rfl⟩
instance : FnI Try.prog 7 := ⟨_, Try.func7, by decide, by kernel_rfl⟩
instance : FnI Try.prog 8 := ⟨_, Try.func8, by decide, by kernel_rfl⟩
instance : FnI Try.prog 9 := ⟨_, Try.func9, by decide, by kernel_rfl⟩
instance : FnI Try.prog 10 := ⟨_, Try.func10, by decide, by kernel_rfl⟩
instance : FnI Try.prog 11 := ⟨_, Try.func11, by decide, by kernel_rfl⟩
instance : FnI Try.prog 12 := ⟨_, Try.func12, by decide, by kernel_rfl⟩
instance : FnI Try.prog 13 := ⟨_, Try.func13, by decide, by kernel_rfl⟩
instance : FnI Try.prog 14 := ⟨_, Try.func14, by decide, by kernel_rfl⟩
instance : FnI Try.prog 15 := ⟨_, Try.func15, by decide, by kernel_rfl⟩
instance : FnI Try.prog 16 := ⟨_, Try.func16, by decide, by kernel_rfl⟩
instance : FnI Try.prog 17 := ⟨_, Try.func17, by decide, by kernel_rfl⟩
instance : FnI Try.prog 18 := ⟨_, Try.func18, by decide, by kernel_rfl⟩
instance : FnI Try.prog 19 := ⟨_, Try.func19, by decide, by kernel_rfl⟩
instance : FnI Try.prog 20 := ⟨_, Try.func20, by decide, by kernel_rfl⟩
instance : FnI Try.prog 21 := ⟨_, Try.func21, by decide, by kernel_rfl⟩
instance : FnI Try.prog 22 := ⟨_, Try.func22, by decide, by kernel_rfl⟩
instance : FnI Try.prog 23 := ⟨_, Try.func23, by decide, by kernel_rfl⟩
instance : FnI Try.prog 24 := ⟨_, Try.func24, by decide, by kernel_rfl⟩
instance : FnI Try.prog 25 := ⟨_, Try.func25, by decide, by kernel_rfl⟩
instance : FnI Try.prog 26 := ⟨_, Try.func26, by decide, by kernel_rfl⟩
instance : FnI Try.prog 27 := ⟨_, Try.func27, by decide, by kernel_rfl⟩
instance : FnI Try.prog 28 := ⟨_, Try.func28, by decide, by kernel_rfl⟩
instance : FnI Try.prog 29 := ⟨_, Try.func29, by decide, by kernel_rfl⟩
instance : FnI Try.prog 30 := ⟨_, Try.func30, by decide, by kernel_rfl⟩
instance : FnI Try.prog 31 := ⟨_, Try.func31, by decide, by kernel_rfl⟩
instance : FnI Try.prog 32 := ⟨_, Try.func32, by decide, by kernel_rfl⟩
end Go.Proofs.Ytcojimifplhodaa
