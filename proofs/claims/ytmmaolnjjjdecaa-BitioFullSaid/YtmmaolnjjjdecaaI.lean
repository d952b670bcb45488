/- The types and functions of this seat, for the walks. -/
import Derived.Test.YtmmaolnjjjdecaaProg
import Derived.Test.YtmmaolnjjjdecaaV13
set_option linter.unusedVariables false
set_option linter.unusedSimpArgs false
namespace Go.Proofs.Ytmmaolnjjjdecaa
open Go Av
instance : Ty Try.prog 0 (TypeDesc.tuple #[]) := ⟨Try.underlying0⟩
instance : Ty Try.prog 1 (TypeDesc.func #[] #[] false) := ⟨Try.underlying1⟩
instance : TyI Try.prog 1 1 8 [.nilFunc] := ⟨by kernel_rfl⟩
instance : Ty Try.prog 2 (TypeDesc.int IntKind.i64) := ⟨Try.underlying2⟩
instance : TyI Try.prog 2 1 8 [.int .i64 0] := ⟨by kernel_rfl⟩
instance : Ty Try.prog 3 (TypeDesc.int IntKind.i64) := ⟨Try.underlying3⟩
instance : TyI Try.prog 3 1 8 [.int .i64 0] := ⟨by kernel_rfl⟩
instance : Ty Try.prog 4 (TypeDesc.bool) := ⟨Try.underlying4⟩
instance : TyI Try.prog 4 1 1 [.bool false] := ⟨by kernel_rfl⟩
instance : Ty Try.prog 5 (TypeDesc.int IntKind.u8) := ⟨Try.underlying5⟩
instance : TyI Try.prog 5 1 1 [.int .u8 0] := ⟨by kernel_rfl⟩
instance : Ty Try.prog 6 (TypeDesc.int IntKind.u8) := ⟨Try.underlying6⟩
instance : TyI Try.prog 6 1 1 [.int .u8 0] := ⟨by kernel_rfl⟩
instance : Ty Try.prog 7 (TypeDesc.struct #[{ name := "x", type := 2, offset := 0, embedded := false, tag := "", pkgPath := "runtime", byteOffset := 0 }, { name := "y", type := 3, offset := 1, embedded := false, tag := "", pkgPath := "runtime", byteOffset := 8 }, { name := "signed", type := 4, offset := 2, embedded := false, tag := "", pkgPath := "runtime", byteOffset := 16 }, { name := "code", type := 6, offset := 3, embedded := false, tag := "", pkgPath := "runtime", byteOffset := 17 }]) := ⟨Try.underlying7⟩
instance : TyF Try.prog 7 [(2, 0), (3, 1), (4, 2), (6, 3)] := ⟨_, Try.underlying7, rfl⟩
instance : TyP Try.prog 7 [(0, 1), (1, 1), (2, 1), (3, 1)] := ⟨_, Try.underlying7, by kernel_rfl⟩
instance : TyI Try.prog 7 4 24 [.int .i64 0, .int .i64 0, .bool false, .int .u8 0] := ⟨by kernel_rfl⟩
instance : Ty Try.prog 8 (TypeDesc.struct #[{ name := "x", type := 2, offset := 0, embedded := false, tag := "", pkgPath := "runtime", byteOffset := 0 }, { name := "y", type := 3, offset := 1, embedded := false, tag := "", pkgPath := "runtime", byteOffset := 8 }, { name := "signed", type := 4, offset := 2, embedded := false, tag := "", pkgPath := "runtime", byteOffset := 16 }, { name := "code", type := 6, offset := 3, embedded := false, tag := "", pkgPath := "runtime", byteOffset := 17 }]) := ⟨Try.underlying8⟩
instance : TyF Try.prog 8 [(2, 0), (3, 1), (4, 2), (6, 3)] := ⟨_, Try.underlying8, rfl⟩
instance : TyP Try.prog 8 [(0, 1), (1, 1), (2, 1), (3, 1)] := ⟨_, Try.underlying8, by kernel_rfl⟩
instance : TyI Try.prog 8 4 24 [.int .i64 0, .int .i64 0, .bool false, .int .u8 0] := ⟨by kernel_rfl⟩
instance : Ty Try.prog 9 (TypeDesc.string) := ⟨Try.underlying9⟩
instance : TyI Try.prog 9 1 16 [.string .empty] := ⟨by kernel_rfl⟩
instance : Ty Try.prog 10 (TypeDesc.string) := ⟨Try.underlying10⟩
instance : TyI Try.prog 10 1 16 [.string .empty] := ⟨by kernel_rfl⟩
instance : Ty Try.prog 11 (TypeDesc.string) := ⟨Try.underlying11⟩
instance : TyI Try.prog 11 1 16 [.string .empty] := ⟨by kernel_rfl⟩
instance : Ty Try.prog 12 (TypeDesc.int IntKind.u64) := ⟨Try.underlying12⟩
instance : TyI Try.prog 12 1 8 [.int .u64 0] := ⟨by kernel_rfl⟩
instance : Ty Try.prog 13 (TypeDesc.struct #[{ name := "msg", type := 9, offset := 0, embedded := false, tag := "", pkgPath := "runtime", byteOffset := 0 }, { name := "addr", type := 12, offset := 1, embedded := false, tag := "", pkgPath := "runtime", byteOffset := 16 }]) := ⟨Try.underlying13⟩
instance : TyF Try.prog 13 [(9, 0), (12, 1)] := ⟨_, Try.underlying13, rfl⟩
instance : TyP Try.prog 13 [(0, 1), (1, 1)] := ⟨_, Try.underlying13, by kernel_rfl⟩
instance : TyI Try.prog 13 2 24 [.string .empty, .int .u64 0] := ⟨by kernel_rfl⟩
instance : Ty Try.prog 14 (TypeDesc.struct #[{ name := "msg", type := 9, offset := 0, embedded := false, tag := "", pkgPath := "runtime", byteOffset := 0 }, { name := "addr", type := 12, offset := 1, embedded := false, tag := "", pkgPath := "runtime", byteOffset := 16 }]) := ⟨Try.underlying14⟩
instance : TyF Try.prog 14 [(9, 0), (12, 1)] := ⟨_, Try.underlying14, rfl⟩
instance : TyP Try.prog 14 [(0, 1), (1, 1)] := ⟨_, Try.underlying14, by kernel_rfl⟩
instance : TyI Try.prog 14 2 24 [.string .empty, .int .u64 0] := ⟨by kernel_rfl⟩
instance : Ty Try.prog 15 (TypeDesc.pointer 74) := ⟨Try.underlying15⟩
instance : TyI Try.prog 15 1 8 [.pointer none] := ⟨by kernel_rfl⟩
instance : Ty Try.prog 16 (TypeDesc.pointer 77) := ⟨Try.underlying16⟩
instance : TyI Try.prog 16 1 8 [.pointer none] := ⟨by kernel_rfl⟩
instance : Ty Try.prog 17 (TypeDesc.pointer 85) := ⟨Try.underlying17⟩
instance : TyI Try.prog 17 1 8 [.pointer none] := ⟨by kernel_rfl⟩
instance : Ty Try.prog 18 (TypeDesc.struct #[{ name := "typ", type := 17, offset := 0, embedded := false, tag := "", pkgPath := "internal/runtime/maps", byteOffset := 0 }]) := ⟨Try.underlying18⟩
instance : TyF Try.prog 18 [(17, 0)] := ⟨_, Try.underlying18, rfl⟩
instance : TyP Try.prog 18 [(0, 1)] := ⟨_, Try.underlying18, by kernel_rfl⟩
instance : TyI Try.prog 18 1 8 [.pointer none] := ⟨by kernel_rfl⟩
instance : Ty Try.prog 19 (TypeDesc.struct #[{ name := "typ", type := 17, offset := 0, embedded := false, tag := "", pkgPath := "internal/runtime/maps", byteOffset := 0 }]) := ⟨Try.underlying19⟩
instance : TyF Try.prog 19 [(17, 0)] := ⟨_, Try.underlying19, rfl⟩
instance : TyP Try.prog 19 [(0, 1)] := ⟨_, Try.underlying19, by kernel_rfl⟩
instance : TyI Try.prog 19 1 8 [.pointer none] := ⟨by kernel_rfl⟩
instance : Ty Try.prog 20 (TypeDesc.interface #[]) := ⟨Try.underlying20⟩
instance : TyI Try.prog 20 1 16 [.nilIface] := ⟨by kernel_rfl⟩
instance : Ty Try.prog 21 (TypeDesc.int IntKind.i32) := ⟨Try.underlying21⟩
instance : TyI Try.prog 21 1 4 [.int .i32 0] := ⟨by kernel_rfl⟩
instance : Ty Try.prog 22 (TypeDesc.slice 30) := ⟨Try.underlying22⟩
instance : TyI Try.prog 22 1 24 [.slice none 0 0] := ⟨by kernel_rfl⟩
instance : Ty Try.prog 23 (TypeDesc.func #[] #[4] false) := ⟨Try.underlying23⟩
instance : TyI Try.prog 23 1 8 [.nilFunc] := ⟨by kernel_rfl⟩
instance : Ty Try.prog 24 (TypeDesc.func #[22] #[4] false) := ⟨Try.underlying24⟩
instance : TyI Try.prog 24 1 8 [.nilFunc] := ⟨by kernel_rfl⟩
instance : Ty Try.prog 25 (TypeDesc.pointer 54) := ⟨Try.underlying25⟩
instance : TyI Try.prog 25 1 8 [.pointer none] := ⟨by kernel_rfl⟩
instance : Ty Try.prog 26 (TypeDesc.func #[] #[25] false) := ⟨Try.underlying26⟩
instance : TyI Try.prog 26 1 8 [.nilFunc] := ⟨by kernel_rfl⟩
instance : Ty Try.prog 27 (TypeDesc.pointer 56) := ⟨Try.underlying27⟩
instance : TyI Try.prog 27 1 8 [.pointer none] := ⟨by kernel_rfl⟩
instance : Ty Try.prog 28 (TypeDesc.func #[] #[27] false) := ⟨Try.underlying28⟩
instance : TyI Try.prog 28 1 8 [.nilFunc] := ⟨by kernel_rfl⟩
instance : Ty Try.prog 29 (TypeDesc.struct #[{ name := "Kind", type := 3, offset := 0, embedded := false, tag := "", pkgPath := "", byteOffset := 0 }, { name := "Width", type := 3, offset := 1, embedded := false, tag := "", pkgPath := "", byteOffset := 8 }, { name := "N", type := 3, offset := 2, embedded := false, tag := "", pkgPath := "", byteOffset := 16 }, { name := "S", type := 9, offset := 3, embedded := false, tag := "", pkgPath := "", byteOffset := 24 }]) := ⟨Try.underlying29⟩
instance : TyF Try.prog 29 [(3, 0), (3, 1), (3, 2), (9, 3)] := ⟨_, Try.underlying29, rfl⟩
instance : TyP Try.prog 29 [(0, 1), (1, 1), (2, 1), (3, 1)] := ⟨_, Try.underlying29, by kernel_rfl⟩
instance : TyI Try.prog 29 4 40 [.int .i64 0, .int .i64 0, .int .i64 0, .string .empty] := ⟨by kernel_rfl⟩
instance : Ty Try.prog 30 (TypeDesc.struct #[{ name := "Kind", type := 3, offset := 0, embedded := false, tag := "", pkgPath := "", byteOffset := 0 }, { name := "Width", type := 3, offset := 1, embedded := false, tag := "", pkgPath := "", byteOffset := 8 }, { name := "N", type := 3, offset := 2, embedded := false, tag := "", pkgPath := "", byteOffset := 16 }, { name := "S", type := 9, offset := 3, embedded := false, tag := "", pkgPath := "", byteOffset := 24 }]) := ⟨Try.underlying30⟩
instance : TyF Try.prog 30 [(3, 0), (3, 1), (3, 2), (9, 3)] := ⟨_, Try.underlying30, rfl⟩
instance : TyP Try.prog 30 [(0, 1), (1, 1), (2, 1), (3, 1)] := ⟨_, Try.underlying30, by kernel_rfl⟩
instance : TyE Try.prog 30 := ⟨_, Try.underlying30, rfl, by kernel_rfl, by kernel_rfl⟩
instance : TyI Try.prog 30 4 40 [.int .i64 0, .int .i64 0, .int .i64 0, .string .empty] := ⟨by kernel_rfl⟩
instance : Ty Try.prog 31 (TypeDesc.func #[25, 30] #[] false) := ⟨Try.underlying31⟩
instance : TyI Try.prog 31 1 8 [.nilFunc] := ⟨by kernel_rfl⟩
instance : Ty Try.prog 32 (TypeDesc.func #[27, 30] #[] false) := ⟨Try.underlying32⟩
instance : TyI Try.prog 32 1 8 [.nilFunc] := ⟨by kernel_rfl⟩
instance : Ty Try.prog 33 (TypeDesc.int IntKind.i64) := ⟨Try.underlying33⟩
instance : TyI Try.prog 33 1 8 [.int .i64 0] := ⟨by kernel_rfl⟩
instance : Ty Try.prog 34 (TypeDesc.tuple #[9, 33]) := ⟨Try.underlying34⟩
instance : Ty Try.prog 35 (TypeDesc.func #[] #[9, 33] false) := ⟨Try.underlying35⟩
instance : TyI Try.prog 35 1 8 [.nilFunc] := ⟨by kernel_rfl⟩
instance : Ty Try.prog 36 (TypeDesc.func #[] #[3] false) := ⟨Try.underlying36⟩
instance : TyI Try.prog 36 1 8 [.nilFunc] := ⟨by kernel_rfl⟩
instance : Ty Try.prog 37 (TypeDesc.pointer 58) := ⟨Try.underlying37⟩
instance : TyI Try.prog 37 1 8 [.pointer none] := ⟨by kernel_rfl⟩
instance : Ty Try.prog 38 (TypeDesc.func #[9] #[37] false) := ⟨Try.underlying38⟩
instance : TyI Try.prog 38 1 8 [.nilFunc] := ⟨by kernel_rfl⟩
instance : Ty Try.prog 39 (TypeDesc.func #[37, 30] #[30] false) := ⟨Try.underlying39⟩
instance : TyI Try.prog 39 1 8 [.nilFunc] := ⟨by kernel_rfl⟩
instance : Ty Try.prog 40 (TypeDesc.func #[] #[33] false) := ⟨Try.underlying40⟩
instance : TyI Try.prog 40 1 8 [.nilFunc] := ⟨by kernel_rfl⟩
instance : Ty Try.prog 41 (TypeDesc.func #[9, 22] #[4] false) := ⟨Try.underlying41⟩
instance : TyI Try.prog 41 1 8 [.nilFunc] := ⟨by kernel_rfl⟩
instance : Ty Try.prog 42 (TypeDesc.func #[3] #[3] false) := ⟨Try.underlying42⟩
instance : TyI Try.prog 42 1 8 [.nilFunc] := ⟨by kernel_rfl⟩
instance : Ty Try.prog 43 (TypeDesc.func #[3, 3] #[] false) := ⟨Try.underlying43⟩
instance : TyI Try.prog 43 1 8 [.nilFunc] := ⟨by kernel_rfl⟩
instance : Ty Try.prog 44 (TypeDesc.func #[3] #[4] false) := ⟨Try.underlying44⟩
instance : TyI Try.prog 44 1 8 [.nilFunc] := ⟨by kernel_rfl⟩
instance : Ty Try.prog 45 (TypeDesc.func #[5, 3] #[4] false) := ⟨Try.underlying45⟩
instance : TyI Try.prog 45 1 8 [.nilFunc] := ⟨by kernel_rfl⟩
instance : Ty Try.prog 46 (TypeDesc.pointer 66) := ⟨Try.underlying46⟩
instance : TyI Try.prog 46 1 8 [.pointer none] := ⟨by kernel_rfl⟩
instance : Ty Try.prog 47 (TypeDesc.func #[9] #[46] false) := ⟨Try.underlying47⟩
instance : TyI Try.prog 47 1 8 [.nilFunc] := ⟨by kernel_rfl⟩
instance : Ty Try.prog 48 (TypeDesc.func #[3] #[9] false) := ⟨Try.underlying48⟩
instance : TyI Try.prog 48 1 8 [.nilFunc] := ⟨by kernel_rfl⟩
instance : Ty Try.prog 49 (TypeDesc.slice 5) := ⟨Try.underlying49⟩
instance : TyI Try.prog 49 1 24 [.slice none 0 0] := ⟨by kernel_rfl⟩
instance : Ty Try.prog 50 (TypeDesc.func #[3, 9] #[] false) := ⟨Try.underlying50⟩
instance : TyI Try.prog 50 1 8 [.nilFunc] := ⟨by kernel_rfl⟩
instance : Ty Try.prog 51 (TypeDesc.func #[5] #[4] false) := ⟨Try.underlying51⟩
instance : TyI Try.prog 51 1 8 [.nilFunc] := ⟨by kernel_rfl⟩
instance : Ty Try.prog 52 (TypeDesc.func #[4] #[] false) := ⟨Try.underlying52⟩
instance : TyI Try.prog 52 1 8 [.nilFunc] := ⟨by kernel_rfl⟩
instance : Ty Try.prog 53 (TypeDesc.struct #[{ name := "data", type := 49, offset := 0, embedded := false, tag := "", pkgPath := "hopmesh/bitio", byteOffset := 0 }, { name := "bits", type := 3, offset := 1, embedded := false, tag := "", pkgPath := "hopmesh/bitio", byteOffset := 24 }, { name := "err", type := 33, offset := 2, embedded := false, tag := "", pkgPath := "hopmesh/bitio", byteOffset := 32 }]) := ⟨Try.underlying53⟩
instance : TyF Try.prog 53 [(49, 0), (3, 1), (33, 2)] := ⟨_, Try.underlying53, rfl⟩
instance : TyP Try.prog 53 [(0, 1), (1, 1), (2, 1)] := ⟨_, Try.underlying53, by kernel_rfl⟩
instance : TyI Try.prog 53 3 40 [.slice none 0 0, .int .i64 0, .int .i64 0] := ⟨by kernel_rfl⟩
instance : Ty Try.prog 54 (TypeDesc.struct #[{ name := "data", type := 49, offset := 0, embedded := false, tag := "", pkgPath := "hopmesh/bitio", byteOffset := 0 }, { name := "bits", type := 3, offset := 1, embedded := false, tag := "", pkgPath := "hopmesh/bitio", byteOffset := 24 }, { name := "err", type := 33, offset := 2, embedded := false, tag := "", pkgPath := "hopmesh/bitio", byteOffset := 32 }]) := ⟨Try.underlying54⟩
instance : TyF Try.prog 54 [(49, 0), (3, 1), (33, 2)] := ⟨_, Try.underlying54, rfl⟩
instance : TyP Try.prog 54 [(0, 1), (1, 1), (2, 1)] := ⟨_, Try.underlying54, by kernel_rfl⟩
instance : TyI Try.prog 54 3 40 [.slice none 0 0, .int .i64 0, .int .i64 0] := ⟨by kernel_rfl⟩
instance : Ty Try.prog 55 (TypeDesc.struct #[{ name := "B", type := 49, offset := 0, embedded := false, tag := "", pkgPath := "", byteOffset := 0 }, { name := "E", type := 33, offset := 1, embedded := false, tag := "", pkgPath := "", byteOffset := 24 }]) := ⟨Try.underlying55⟩
instance : TyF Try.prog 55 [(49, 0), (33, 1)] := ⟨_, Try.underlying55, rfl⟩
instance : TyP Try.prog 55 [(0, 1), (1, 1)] := ⟨_, Try.underlying55, by kernel_rfl⟩
instance : TyI Try.prog 55 2 32 [.slice none 0 0, .int .i64 0] := ⟨by kernel_rfl⟩
instance : Ty Try.prog 56 (TypeDesc.struct #[{ name := "B", type := 49, offset := 0, embedded := false, tag := "", pkgPath := "", byteOffset := 0 }, { name := "E", type := 33, offset := 1, embedded := false, tag := "", pkgPath := "", byteOffset := 24 }]) := ⟨Try.underlying56⟩
instance : TyF Try.prog 56 [(49, 0), (33, 1)] := ⟨_, Try.underlying56, rfl⟩
instance : TyP Try.prog 56 [(0, 1), (1, 1)] := ⟨_, Try.underlying56, by kernel_rfl⟩
instance : TyI Try.prog 56 2 32 [.slice none 0 0, .int .i64 0] := ⟨by kernel_rfl⟩
instance : Ty Try.prog 57 (TypeDesc.struct #[{ name := "data", type := 9, offset := 0, embedded := false, tag := "", pkgPath := "hopmesh/bitio", byteOffset := 0 }, { name := "at", type := 3, offset := 1, embedded := false, tag := "", pkgPath := "hopmesh/bitio", byteOffset := 16 }, { name := "err", type := 33, offset := 2, embedded := false, tag := "", pkgPath := "hopmesh/bitio", byteOffset := 24 }]) := ⟨Try.underlying57⟩
instance : TyF Try.prog 57 [(9, 0), (3, 1), (33, 2)] := ⟨_, Try.underlying57, rfl⟩
instance : TyP Try.prog 57 [(0, 1), (1, 1), (2, 1)] := ⟨_, Try.underlying57, by kernel_rfl⟩
instance : TyI Try.prog 57 3 32 [.string .empty, .int .i64 0, .int .i64 0] := ⟨by kernel_rfl⟩
instance : Ty Try.prog 58 (TypeDesc.struct #[{ name := "data", type := 9, offset := 0, embedded := false, tag := "", pkgPath := "hopmesh/bitio", byteOffset := 0 }, { name := "at", type := 3, offset := 1, embedded := false, tag := "", pkgPath := "hopmesh/bitio", byteOffset := 16 }, { name := "err", type := 33, offset := 2, embedded := false, tag := "", pkgPath := "hopmesh/bitio", byteOffset := 24 }]) := ⟨Try.underlying58⟩
instance : TyF Try.prog 58 [(9, 0), (3, 1), (33, 2)] := ⟨_, Try.underlying58, rfl⟩
instance : TyP Try.prog 58 [(0, 1), (1, 1), (2, 1)] := ⟨_, Try.underlying58, by kernel_rfl⟩
instance : TyI Try.prog 58 3 32 [.string .empty, .int .i64 0, .int .i64 0] := ⟨by kernel_rfl⟩
instance : Ty Try.prog 59 (TypeDesc.int IntKind.u64) := ⟨Try.underlying59⟩
instance : TyI Try.prog 59 1 8 [.int .u64 0] := ⟨by kernel_rfl⟩
instance : Ty Try.prog 60 (TypeDesc.func #[3] #[59] false) := ⟨Try.underlying60⟩
instance : TyI Try.prog 60 1 8 [.nilFunc] := ⟨by kernel_rfl⟩
instance : Ty Try.prog 61 (TypeDesc.func #[62] #[3] false) := ⟨Try.underlying61⟩
instance : TyI Try.prog 61 1 8 [.nilFunc] := ⟨by kernel_rfl⟩
instance : Ty Try.prog 62 (TypeDesc.int IntKind.u64) := ⟨Try.underlying62⟩
instance : TyI Try.prog 62 1 8 [.int .u64 0] := ⟨by kernel_rfl⟩
instance : Ty Try.prog 63 (TypeDesc.func #[4, 4, 3, 3] #[] false) := ⟨Try.underlying63⟩
instance : TyI Try.prog 63 1 8 [.nilFunc] := ⟨by kernel_rfl⟩
instance : Ty Try.prog 64 (TypeDesc.func #[4, 3] #[59] false) := ⟨Try.underlying64⟩
instance : TyI Try.prog 64 1 8 [.nilFunc] := ⟨by kernel_rfl⟩
instance : Ty Try.prog 65 (TypeDesc.struct #[{ name := "S", type := 9, offset := 0, embedded := false, tag := "", pkgPath := "", byteOffset := 0 }, { name := "At", type := 3, offset := 1, embedded := false, tag := "", pkgPath := "", byteOffset := 16 }, { name := "E", type := 33, offset := 2, embedded := false, tag := "", pkgPath := "", byteOffset := 24 }]) := ⟨Try.underlying65⟩
instance : TyF Try.prog 65 [(9, 0), (3, 1), (33, 2)] := ⟨_, Try.underlying65, rfl⟩
instance : TyP Try.prog 65 [(0, 1), (1, 1), (2, 1)] := ⟨_, Try.underlying65, by kernel_rfl⟩
instance : TyI Try.prog 65 3 32 [.string .empty, .int .i64 0, .int .i64 0] := ⟨by kernel_rfl⟩
instance : Ty Try.prog 66 (TypeDesc.struct #[{ name := "S", type := 9, offset := 0, embedded := false, tag := "", pkgPath := "", byteOffset := 0 }, { name := "At", type := 3, offset := 1, embedded := false, tag := "", pkgPath := "", byteOffset := 16 }, { name := "E", type := 33, offset := 2, embedded := false, tag := "", pkgPath := "", byteOffset := 24 }]) := ⟨Try.underlying66⟩
instance : TyF Try.prog 66 [(9, 0), (3, 1), (33, 2)] := ⟨_, Try.underlying66, rfl⟩
instance : TyP Try.prog 66 [(0, 1), (1, 1), (2, 1)] := ⟨_, Try.underlying66, by kernel_rfl⟩
instance : TyI Try.prog 66 3 32 [.string .empty, .int .i64 0, .int .i64 0] := ⟨by kernel_rfl⟩
instance : Ty Try.prog 67 (TypeDesc.func #[33] #[] false) := ⟨Try.underlying67⟩
instance : TyI Try.prog 67 1 8 [.nilFunc] := ⟨by kernel_rfl⟩
instance : Ty Try.prog 68 (TypeDesc.func #[3, 59] #[] false) := ⟨Try.underlying68⟩
instance : TyI Try.prog 68 1 8 [.nilFunc] := ⟨by kernel_rfl⟩
instance : Ty Try.prog 69 (TypeDesc.func #[70] #[3] false) := ⟨Try.underlying69⟩
instance : TyI Try.prog 69 1 8 [.nilFunc] := ⟨by kernel_rfl⟩
instance : Ty Try.prog 70 (TypeDesc.int IntKind.u32) := ⟨Try.underlying70⟩
instance : TyI Try.prog 70 1 4 [.int .u32 0] := ⟨by kernel_rfl⟩
instance : Ty Try.prog 71 (TypeDesc.func #[59] #[3] false) := ⟨Try.underlying71⟩
instance : TyI Try.prog 71 1 8 [.nilFunc] := ⟨by kernel_rfl⟩
instance : Ty Try.prog 72 (TypeDesc.func #[] #[9] false) := ⟨Try.underlying72⟩
instance : TyI Try.prog 72 1 8 [.nilFunc] := ⟨by kernel_rfl⟩
instance : Ty Try.prog 73 (TypeDesc.struct #[{ name := "_interface", type := 17, offset := 0, embedded := false, tag := "", pkgPath := "runtime", byteOffset := 0 }, { name := "concrete", type := 17, offset := 1, embedded := false, tag := "", pkgPath := "runtime", byteOffset := 8 }, { name := "asserted", type := 17, offset := 2, embedded := false, tag := "", pkgPath := "runtime", byteOffset := 16 }, { name := "missingMethod", type := 9, offset := 3, embedded := false, tag := "", pkgPath := "runtime", byteOffset := 24 }]) := ⟨Try.underlying73⟩
instance : TyF Try.prog 73 [(17, 0), (17, 1), (17, 2), (9, 3)] := ⟨_, Try.underlying73, rfl⟩
instance : TyP Try.prog 73 [(0, 1), (1, 1), (2, 1), (3, 1)] := ⟨_, Try.underlying73, by kernel_rfl⟩
instance : TyI Try.prog 73 4 40 [.pointer none, .pointer none, .pointer none, .string .empty] := ⟨by kernel_rfl⟩
instance : Ty Try.prog 74 (TypeDesc.struct #[{ name := "_interface", type := 17, offset := 0, embedded := false, tag := "", pkgPath := "runtime", byteOffset := 0 }, { name := "concrete", type := 17, offset := 1, embedded := false, tag := "", pkgPath := "runtime", byteOffset := 8 }, { name := "asserted", type := 17, offset := 2, embedded := false, tag := "", pkgPath := "runtime", byteOffset := 16 }, { name := "missingMethod", type := 9, offset := 3, embedded := false, tag := "", pkgPath := "runtime", byteOffset := 24 }]) := ⟨Try.underlying74⟩
instance : TyF Try.prog 74 [(17, 0), (17, 1), (17, 2), (9, 3)] := ⟨_, Try.underlying74, rfl⟩
instance : TyP Try.prog 74 [(0, 1), (1, 1), (2, 1), (3, 1)] := ⟨_, Try.underlying74, by kernel_rfl⟩
instance : TyI Try.prog 74 4 40 [.pointer none, .pointer none, .pointer none, .string .empty] := ⟨by kernel_rfl⟩
instance : Ty Try.prog 75 (TypeDesc.array 0 16) := ⟨Try.underlying75⟩
instance : Ty Try.prog 76 (TypeDesc.struct #[{ name := "_", type := 75, offset := 0, embedded := false, tag := "", pkgPath := "runtime", byteOffset := 0 }]) := ⟨Try.underlying76⟩
instance : TyF Try.prog 76 [(75, 0)] := ⟨_, Try.underlying76, rfl⟩
instance : TyP Try.prog 76 [(0, 0)] := ⟨_, Try.underlying76, by kernel_rfl⟩
instance : Ty Try.prog 77 (TypeDesc.struct #[{ name := "_", type := 75, offset := 0, embedded := false, tag := "", pkgPath := "runtime", byteOffset := 0 }]) := ⟨Try.underlying77⟩
instance : TyF Try.prog 77 [(75, 0)] := ⟨_, Try.underlying77, rfl⟩
instance : TyP Try.prog 77 [(0, 0)] := ⟨_, Try.underlying77, by kernel_rfl⟩
instance : Ty Try.prog 78 (TypeDesc.int IntKind.u8) := ⟨Try.underlying78⟩
instance : TyI Try.prog 78 1 1 [.int .u8 0] := ⟨by kernel_rfl⟩
instance : Ty Try.prog 79 (TypeDesc.int IntKind.u8) := ⟨Try.underlying79⟩
instance : TyI Try.prog 79 1 1 [.int .u8 0] := ⟨by kernel_rfl⟩
instance : Ty Try.prog 80 (TypeDesc.func #[86, 86] #[4] false) := ⟨Try.underlying80⟩
instance : TyI Try.prog 80 1 8 [.nilFunc] := ⟨by kernel_rfl⟩
instance : Ty Try.prog 81 (TypeDesc.pointer 5) := ⟨Try.underlying81⟩
instance : TyI Try.prog 81 1 8 [.pointer none] := ⟨by kernel_rfl⟩
instance : Ty Try.prog 82 (TypeDesc.int IntKind.i32) := ⟨Try.underlying82⟩
instance : TyI Try.prog 82 1 4 [.int .i32 0] := ⟨by kernel_rfl⟩
instance : Ty Try.prog 83 (TypeDesc.int IntKind.i32) := ⟨Try.underlying83⟩
instance : TyI Try.prog 83 1 4 [.int .i32 0] := ⟨by kernel_rfl⟩
instance : Ty Try.prog 84 (TypeDesc.struct #[{ name := "Size_", type := 12, offset := 0, embedded := false, tag := "", pkgPath := "", byteOffset := 0 }, { name := "PtrBytes", type := 12, offset := 1, embedded := false, tag := "", pkgPath := "", byteOffset := 8 }, { name := "Hash", type := 70, offset := 2, embedded := false, tag := "", pkgPath := "", byteOffset := 16 }, { name := "TFlag", type := 78, offset := 3, embedded := false, tag := "", pkgPath := "", byteOffset := 20 }, { name := "Align_", type := 5, offset := 4, embedded := false, tag := "", pkgPath := "", byteOffset := 21 }, { name := "FieldAlign_", type := 5, offset := 5, embedded := false, tag := "", pkgPath := "", byteOffset := 22 }, { name := "Kind_", type := 79, offset := 6, embedded := false, tag := "", pkgPath := "", byteOffset := 23 }, { name := "Equal", type := 80, offset := 7, embedded := false, tag := "", pkgPath := "", byteOffset := 24 }, { name := "GCData", type := 81, offset := 8, embedded := false, tag := "", pkgPath := "", byteOffset := 32 }, { name := "Str", type := 82, offset := 9, embedded := false, tag := "", pkgPath := "", byteOffset := 40 }, { name := "PtrToThis", type := 83, offset := 10, embedded := false, tag := "", pkgPath := "", byteOffset := 44 }]) := ⟨Try.underlying84⟩
instance : TyF Try.prog 84 [(12, 0), (12, 1), (70, 2), (78, 3), (5, 4), (5, 5), (79, 6), (80, 7), (81, 8), (82, 9), (83, 10)] := ⟨_, Try.underlying84, rfl⟩
instance : TyP Try.prog 84 [(0, 1), (1, 1), (2, 1), (3, 1), (4, 1), (5, 1), (6, 1), (7, 1), (8, 1), (9, 1), (10, 1)] := ⟨_, Try.underlying84, by kernel_rfl⟩
instance : TyI Try.prog 84 11 48 [.int .u64 0, .int .u64 0, .int .u32 0, .int .u8 0, .int .u8 0, .int .u8 0, .int .u8 0, .nilFunc, .pointer none, .int .i32 0, .int .i32 0] := ⟨by kernel_rfl⟩
instance : Ty Try.prog 85 (TypeDesc.struct #[{ name := "Size_", type := 12, offset := 0, embedded := false, tag := "", pkgPath := "", byteOffset := 0 }, { name := "PtrBytes", type := 12, offset := 1, embedded := false, tag := "", pkgPath := "", byteOffset := 8 }, { name := "Hash", type := 70, offset := 2, embedded := false, tag := "", pkgPath := "", byteOffset := 16 }, { name := "TFlag", type := 78, offset := 3, embedded := false, tag := "", pkgPath := "", byteOffset := 20 }, { name := "Align_", type := 5, offset := 4, embedded := false, tag := "", pkgPath := "", byteOffset := 21 }, { name := "FieldAlign_", type := 5, offset := 5, embedded := false, tag := "", pkgPath := "", byteOffset := 22 }, { name := "Kind_", type := 79, offset := 6, embedded := false, tag := "", pkgPath := "", byteOffset := 23 }, { name := "Equal", type := 80, offset := 7, embedded := false, tag := "", pkgPath := "", byteOffset := 24 }, { name := "GCData", type := 81, offset := 8, embedded := false, tag := "", pkgPath := "", byteOffset := 32 }, { name := "Str", type := 82, offset := 9, embedded := false, tag := "", pkgPath := "", byteOffset := 40 }, { name := "PtrToThis", type := 83, offset := 10, embedded := false, tag := "", pkgPath := "", byteOffset := 44 }]) := ⟨Try.underlying85⟩
instance : TyF Try.prog 85 [(12, 0), (12, 1), (70, 2), (78, 3), (5, 4), (5, 5), (79, 6), (80, 7), (81, 8), (82, 9), (83, 10)] := ⟨_, Try.underlying85, rfl⟩
instance : TyP Try.prog 85 [(0, 1), (1, 1), (2, 1), (3, 1), (4, 1), (5, 1), (6, 1), (7, 1), (8, 1), (9, 1), (10, 1)] := ⟨_, Try.underlying85, by kernel_rfl⟩
instance : TyI Try.prog 85 11 48 [.int .u64 0, .int .u64 0, .int .u32 0, .int .u8 0, .int .u8 0, .int .u8 0, .int .u8 0, .nilFunc, .pointer none, .int .i32 0, .int .i32 0] := ⟨by kernel_rfl⟩
instance : Ty Try.prog 86 (TypeDesc.unsafePointer) := ⟨Try.underlying86⟩
instance : FnI Try.prog 2 := ⟨_, Try.func2, by decide, by kernel_rfl⟩
instance : FnI Try.prog 3 := ⟨_, Try.func3, by decide, by kernel_rfl⟩
instance : FnI Try.prog 4 := ⟨_, Try.func4, by decide, by kernel_rfl⟩
instance : FnI Try.prog 5 := ⟨_, Try.func5, by decide, by kernel_rfl⟩
instance : FnI Try.prog 6 := ⟨_, Try.func6, by decide, by kernel_rfl⟩
instance : FnI Try.prog 7 := ⟨_, Try.func7, by decide, by kernel_rfl⟩
instance : FnI Try.prog 8 := ⟨_, Try.func8, by decide, by kernel_rfl⟩
instance : FnI Try.prog 9 := ⟨_, Try.func9, by decide, by kernel_rfl⟩
instance : FnI Try.prog 10 := ⟨_, Try.func10, by decide, by kernel_rfl⟩
instance : FnI Try.prog 11 := ⟨_, Try.func11, by decide, by kernel_rfl⟩
instance : FnI Try.prog 12 := ⟨_, Try.func12, by decide, by kernel_rfl⟩
instance : FnI Try.prog 13 := ⟨_, Try.func13, by decide, by kernel_rfl⟩
instance : FnI Try.prog 14 := ⟨_, Try.func14, by decide, by kernel_rfl⟩
instance : FnI Try.prog 15 := ⟨_, Try.func15, by decide, by kernel_rfl⟩
instance : FnI Try.prog 16 := ⟨_, Try.func16, by decide, by kernel_rfl⟩
instance : FnI Try.prog 17 := ⟨_, Try.func17, by decide, by kernel_rfl⟩
instance : FnI Try.prog 18 := ⟨_, Try.func18, by decide, by kernel_rfl⟩
instance : FnI Try.prog 19 := ⟨_, Try.func19, by decide, by kernel_rfl⟩
instance : FnI Try.prog 20 := ⟨_, Try.func20, by decide, by kernel_rfl⟩
instance : FnI Try.prog 21 := ⟨_, Try.func21, by decide, by kernel_rfl⟩
instance : FnI Try.prog 22 := ⟨_, Try.func22, by decide, by kernel_rfl⟩
instance : FnI Try.prog 23 := ⟨_, Try.func23, by decide, by kernel_rfl⟩
instance : FnI Try.prog 24 := ⟨_, Try.func24, by decide, by kernel_rfl⟩
instance : FnI Try.prog 25 := ⟨_, Try.func25, by decide, by kernel_rfl⟩
instance : FnI Try.prog 26 := ⟨_, Try.func26, by decide, by kernel_rfl⟩
instance : FnI Try.prog 27 := ⟨_, Try.func27, by decide, by kernel_rfl⟩
instance : FnI Try.prog 28 := ⟨_, Try.func28, by decide, by kernel_rfl⟩
instance : FnI Try.prog 29 := ⟨_, Try.func29, by decide, by kernel_rfl⟩
instance : FnI Try.prog 30 := ⟨_, Try.func30, by decide, by kernel_rfl⟩
instance : FnI Try.prog 31 := ⟨_, Try.func31, by decide, by kernel_rfl⟩
instance : FnI Try.prog 32 := ⟨_, Try.func32, by decide, by kernel_rfl⟩
instance : FnI Try.prog 33 := ⟨_, Try.func33, by decide, by kernel_rfl⟩
instance : FnI Try.prog 34 := ⟨_, Try.func34, by decide, by kernel_rfl⟩
instance : FnI Try.prog 35 := ⟨_, Try.func35, by decide, by kernel_rfl⟩
instance : FnI Try.prog 36 := ⟨_, Try.func36, by decide, by kernel_rfl⟩
instance : FnI Try.prog 37 := ⟨_, Try.func37, by decide, by kernel_rfl⟩
instance : FnI Try.prog 38 := ⟨_, Try.func38, by decide, by kernel_rfl⟩
instance : FnI Try.prog 39 := ⟨_, Try.func39, by decide, by kernel_rfl⟩
instance : FnI Try.prog 40 := ⟨_, Try.func40, by decide, by kernel_rfl⟩
instance : FnI Try.prog 41 := ⟨_, Try.func41, by decide, by kernel_rfl⟩
instance : FnI Try.prog 42 := ⟨_, Try.func42, by decide, by kernel_rfl⟩
instance : FnI Try.prog 43 := ⟨_, Try.func43, by decide, by kernel_rfl⟩
instance : FnI Try.prog 44 := ⟨_, Try.func44, by decide, by kernel_rfl⟩
instance : FnI Try.prog 45 := ⟨_, Try.func45, by decide, by kernel_rfl⟩
instance : FnI Try.prog 46 := ⟨_, Try.func46, by decide, by kernel_rfl⟩
instance : FnI Try.prog 47 := ⟨_, Try.func47, by decide, by kernel_rfl⟩
instance : FnI Try.prog 48 := ⟨_, Try.func48, by decide, by kernel_rfl⟩
instance : FnI Try.prog 49 := ⟨_, Try.func49, by decide, by kernel_rfl⟩
instance : FnI Try.prog 50 := ⟨_, Try.func50, by decide, by kernel_rfl⟩
instance : FnI Try.prog 51 := ⟨_, Try.func51, by decide, by kernel_rfl⟩
instance : FnI Try.prog 52 := ⟨_, Try.func52, by decide, by kernel_rfl⟩
instance : FnI Try.prog 53 := ⟨_, Try.func53, by decide, by kernel_rfl⟩
instance : FnI Try.prog 54 := ⟨_, Try.func54, by decide, by kernel_rfl⟩
instance : FnI Try.prog 55 := ⟨_, Try.func55, by decide, by kernel_rfl⟩
instance : FnI Try.prog 56 := ⟨_, Try.func56, by decide, by kernel_rfl⟩
instance : FnI Try.prog 57 := ⟨_, Try.func57, by decide, by kernel_rfl⟩
instance : FnI Try.prog 58 := ⟨_, Try.func58, by decide, by kernel_rfl⟩
instance : FnI Try.prog 59 := ⟨_, Try.func59, by decide, by kernel_rfl⟩
instance : FnI Try.prog 60 := ⟨_, Try.func60, by decide, by kernel_rfl⟩
instance : FnI Try.prog 61 := ⟨_, Try.func61, by decide, by kernel_rfl⟩
end Go.Proofs.Ytmmaolnjjjdecaa
