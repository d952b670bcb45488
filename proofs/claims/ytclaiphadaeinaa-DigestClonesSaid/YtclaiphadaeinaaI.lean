/- The types and functions of this seat, for the walks. -/
import Derived.Test.YtclaiphadaeinaaProg
import Derived.Test.YtclaiphadaeinaaVE
set_option linter.unusedVariables false
set_option linter.unusedSimpArgs false
namespace Go.Proofs.Ytclaiphadaeinaa
open Go Av
instance : Ty Try.prog 0 (TypeDesc.tuple #[]) := ⟨Try.underlying0⟩
instance : Ty Try.prog 1 (TypeDesc.func #[] #[] false) := ⟨Try.underlying1⟩
instance : TyI Try.prog 1 1 8 [.nilFunc] := ⟨by kernel_rfl⟩
instance : Ty Try.prog 2 (TypeDesc.int IntKind.i64) := ⟨Try.underlying2⟩
instance : TyI Try.prog 2 1 8 [.int .i64 0] := ⟨by kernel_rfl⟩
instance : Ty Try.prog 3 (TypeDesc.int IntKind.i64) := ⟨Try.underlying3⟩
instance : TyI Try.prog 3 1 8 [.int .i64 0] := ⟨by kernel_rfl⟩
instance : Ty Try.prog 4 (TypeDesc.bool) := ⟨Try.underlying4⟩
instance : TyI Try.prog 4 1 1 [.bool false] := ⟨by kernel_rfl⟩
instance : Ty Try.prog 5 (TypeDesc.int IntKind.u8) := ⟨Try.underlying5⟩
instance : TyI Try.prog 5 1 1 [.int .u8 0] := ⟨by kernel_rfl⟩
instance : Ty Try.prog 6 (TypeDesc.int IntKind.u8) := ⟨Try.underlying6⟩
instance : TyI Try.prog 6 1 1 [.int .u8 0] := ⟨by kernel_rfl⟩
instance : Ty Try.prog 7 (TypeDesc.struct #[{ name := "x", type := 2, offset := 0, embedded := false, tag := "", pkgPath := "runtime", byteOffset := 0 }, { name := "y", type := 3, offset := 1, embedded := false, tag := "", pkgPath := "runtime", byteOffset := 8 }, { name := "signed", type := 4, offset := 2, embedded := false, tag := "", pkgPath := "runtime", byteOffset := 16 }, { name := "code", type := 6, offset := 3, embedded := false, tag := "", pkgPath := "runtime", byteOffset := 17 }]) := ⟨Try.underlying7⟩
instance : TyF Try.prog 7 [(2, 0), (3, 1), (4, 2), (6, 3)] := ⟨_, Try.underlying7, rfl⟩
instance : TyP Try.prog 7 [(0, 1), (1, 1), (2, 1), (3, 1)] := ⟨_, Try.underlying7, by kernel_rfl⟩
instance : TyI Try.prog 7 4 24 [.int .i64 0, .int .i64 0, .bool false, .int .u8 0] := ⟨by kernel_rfl⟩
instance : Ty Try.prog 8 (TypeDesc.struct #[{ name := "x", type := 2, offset := 0, embedded := false, tag := "", pkgPath := "runtime", byteOffset := 0 }, { name := "y", type := 3, offset := 1, embedded := false, tag := "", pkgPath := "runtime", byteOffset := 8 }, { name := "signed", type := 4, offset := 2, embedded := false, tag := "", pkgPath := "runtime", byteOffset := 16 }, { name := "code", type := 6, offset := 3, embedded := false, tag := "", pkgPath := "runtime", byteOffset := 17 }]) := ⟨Try.underlying8⟩
instance : TyF Try.prog 8 [(2, 0), (3, 1), (4, 2), (6, 3)] := ⟨_, Try.underlying8, rfl⟩
instance : TyP Try.prog 8 [(0, 1), (1, 1), (2, 1), (3, 1)] := ⟨_, Try.underlying8, by kernel_rfl⟩
instance : TyI Try.prog 8 4 24 [.int .i64 0, .int .i64 0, .bool false, .int .u8 0] := ⟨by kernel_rfl⟩
instance : Ty Try.prog 9 (TypeDesc.string) := ⟨Try.underlying9⟩
instance : TyI Try.prog 9 1 16 [.string .empty] := ⟨by kernel_rfl⟩
instance : Ty Try.prog 10 (TypeDesc.string) := ⟨Try.underlying10⟩
instance : TyI Try.prog 10 1 16 [.string .empty] := ⟨by kernel_rfl⟩
instance : Ty Try.prog 11 (TypeDesc.string) := ⟨Try.underlying11⟩
instance : TyI Try.prog 11 1 16 [.string .empty] := ⟨by kernel_rfl⟩
instance : Ty Try.prog 12 (TypeDesc.int IntKind.u64) := ⟨Try.underlying12⟩
instance : TyI Try.prog 12 1 8 [.int .u64 0] := ⟨by kernel_rfl⟩
instance : Ty Try.prog 13 (TypeDesc.struct #[{ name := "msg", type := 9, offset := 0, embedded := false, tag := "", pkgPath := "runtime", byteOffset := 0 }, { name := "addr", type := 12, offset := 1, embedded := false, tag := "", pkgPath := "runtime", byteOffset := 16 }]) := ⟨Try.underlying13⟩
instance : TyF Try.prog 13 [(9, 0), (12, 1)] := ⟨_, Try.underlying13, rfl⟩
instance : TyP Try.prog 13 [(0, 1), (1, 1)] := ⟨_, Try.underlying13, by kernel_rfl⟩
instance : TyI Try.prog 13 2 24 [.string .empty, .int .u64 0] := ⟨by kernel_rfl⟩
instance : Ty Try.prog 14 (TypeDesc.struct #[{ name := "msg", type := 9, offset := 0, embedded := false, tag := "", pkgPath := "runtime", byteOffset := 0 }, { name := "addr", type := 12, offset := 1, embedded := false, tag := "", pkgPath := "runtime", byteOffset := 16 }]) := ⟨Try.underlying14⟩
instance : TyF Try.prog 14 [(9, 0), (12, 1)] := ⟨_, Try.underlying14, rfl⟩
instance : TyP Try.prog 14 [(0, 1), (1, 1)] := ⟨_, Try.underlying14, by kernel_rfl⟩
instance : TyI Try.prog 14 2 24 [.string .empty, .int .u64 0] := ⟨by kernel_rfl⟩
instance : Ty Try.prog 15 (TypeDesc.pointer 75) := ⟨Try.underlying15⟩
instance : TyI Try.prog 15 1 8 [.pointer none] := ⟨by kernel_rfl⟩
instance : Ty Try.prog 16 (TypeDesc.pointer 78) := ⟨Try.underlying16⟩
instance : TyI Try.prog 16 1 8 [.pointer none] := ⟨by kernel_rfl⟩
instance : Ty Try.prog 17 (TypeDesc.pointer 87) := ⟨Try.underlying17⟩
instance : TyI Try.prog 17 1 8 [.pointer none] := ⟨by kernel_rfl⟩
instance : Ty Try.prog 18 (TypeDesc.struct #[{ name := "typ", type := 17, offset := 0, embedded := false, tag := "", pkgPath := "internal/runtime/maps", byteOffset := 0 }]) := ⟨Try.underlying18⟩
instance : TyF Try.prog 18 [(17, 0)] := ⟨_, Try.underlying18, rfl⟩
instance : TyP Try.prog 18 [(0, 1)] := ⟨_, Try.underlying18, by kernel_rfl⟩
instance : TyI Try.prog 18 1 8 [.pointer none] := ⟨by kernel_rfl⟩
instance : Ty Try.prog 19 (TypeDesc.struct #[{ name := "typ", type := 17, offset := 0, embedded := false, tag := "", pkgPath := "internal/runtime/maps", byteOffset := 0 }]) := ⟨Try.underlying19⟩
instance : TyF Try.prog 19 [(17, 0)] := ⟨_, Try.underlying19, rfl⟩
instance : TyP Try.prog 19 [(0, 1)] := ⟨_, Try.underlying19, by kernel_rfl⟩
instance : TyI Try.prog 19 1 8 [.pointer none] := ⟨by kernel_rfl⟩
instance : Ty Try.prog 20 (TypeDesc.interface #[]) := ⟨Try.underlying20⟩
instance : TyI Try.prog 20 1 16 [.nilIface] := ⟨by kernel_rfl⟩
instance : Ty Try.prog 21 (TypeDesc.int IntKind.i32) := ⟨Try.underlying21⟩
instance : TyI Try.prog 21 1 4 [.int .i32 0] := ⟨by kernel_rfl⟩
instance : Ty Try.prog 22 (TypeDesc.func #[] #[4] false) := ⟨Try.underlying22⟩
instance : TyI Try.prog 22 1 8 [.nilFunc] := ⟨by kernel_rfl⟩
instance : Ty Try.prog 23 (TypeDesc.func #[9] #[9] false) := ⟨Try.underlying23⟩
instance : TyI Try.prog 23 1 8 [.nilFunc] := ⟨by kernel_rfl⟩
instance : Ty Try.prog 24 (TypeDesc.func #[9] #[4] false) := ⟨Try.underlying24⟩
instance : TyI Try.prog 24 1 8 [.nilFunc] := ⟨by kernel_rfl⟩
instance : Ty Try.prog 25 (TypeDesc.int IntKind.i64) := ⟨Try.underlying25⟩
instance : TyI Try.prog 25 1 8 [.int .i64 0] := ⟨by kernel_rfl⟩
instance : Ty Try.prog 26 (TypeDesc.tuple #[9, 25]) := ⟨Try.underlying26⟩
instance : Ty Try.prog 27 (TypeDesc.func #[9, 9] #[9, 25] false) := ⟨Try.underlying27⟩
instance : TyI Try.prog 27 1 8 [.nilFunc] := ⟨by kernel_rfl⟩
instance : Ty Try.prog 28 (TypeDesc.func #[9, 9] #[4] false) := ⟨Try.underlying28⟩
instance : TyI Try.prog 28 1 8 [.nilFunc] := ⟨by kernel_rfl⟩
instance : Ty Try.prog 29 (TypeDesc.int IntKind.u32) := ⟨Try.underlying29⟩
instance : TyI Try.prog 29 1 4 [.int .u32 0] := ⟨by kernel_rfl⟩
instance : Ty Try.prog 30 (TypeDesc.array 4 29) := ⟨Try.underlying30⟩
instance : TyI Try.prog 30 4 16 [.int .u32 0, .int .u32 0, .int .u32 0, .int .u32 0] := ⟨by kernel_rfl⟩
instance : Ty Try.prog 31 (TypeDesc.array 8 29) := ⟨Try.underlying31⟩
instance : TyI Try.prog 31 8 32 [.int .u32 0, .int .u32 0, .int .u32 0, .int .u32 0, .int .u32 0, .int .u32 0, .int .u32 0, .int .u32 0] := ⟨by kernel_rfl⟩
instance : Ty Try.prog 32 (TypeDesc.array 16 29) := ⟨Try.underlying32⟩
instance : TyI Try.prog 32 16 64 [.int .u32 0, .int .u32 0, .int .u32 0, .int .u32 0, .int .u32 0, .int .u32 0, .int .u32 0, .int .u32 0, .int .u32 0, .int .u32 0, .int .u32 0, .int .u32 0, .int .u32 0, .int .u32 0, .int .u32 0, .int .u32 0] := ⟨by kernel_rfl⟩
instance : Ty Try.prog 33 (TypeDesc.int IntKind.u64) := ⟨Try.underlying33⟩
instance : TyI Try.prog 33 1 8 [.int .u64 0] := ⟨by kernel_rfl⟩
instance : Ty Try.prog 34 (TypeDesc.struct #[{ name := "V", type := 30, offset := 0, embedded := false, tag := "", pkgPath := "", byteOffset := 0 }, { name := "H", type := 31, offset := 4, embedded := false, tag := "", pkgPath := "", byteOffset := 16 }, { name := "M", type := 32, offset := 12, embedded := false, tag := "", pkgPath := "", byteOffset := 48 }, { name := "T", type := 33, offset := 28, embedded := false, tag := "", pkgPath := "", byteOffset := 112 }]) := ⟨Try.underlying34⟩
instance : TyF Try.prog 34 [(30, 0), (31, 4), (32, 12), (33, 28)] := ⟨_, Try.underlying34, rfl⟩
instance : TyP Try.prog 34 [(0, 4), (4, 8), (12, 16), (28, 1)] := ⟨_, Try.underlying34, by kernel_rfl⟩
instance : TyI Try.prog 34 29 120 [.int .u32 0, .int .u32 0, .int .u32 0, .int .u32 0, .int .u32 0, .int .u32 0, .int .u32 0, .int .u32 0, .int .u32 0, .int .u32 0, .int .u32 0, .int .u32 0, .int .u32 0, .int .u32 0, .int .u32 0, .int .u32 0, .int .u32 0, .int .u32 0, .int .u32 0, .int .u32 0, .int .u32 0, .int .u32 0, .int .u32 0, .int .u32 0, .int .u32 0, .int .u32 0, .int .u32 0, .int .u32 0, .int .u64 0] := ⟨by kernel_rfl⟩
instance : Ty Try.prog 35 (TypeDesc.struct #[{ name := "V", type := 30, offset := 0, embedded := false, tag := "", pkgPath := "", byteOffset := 0 }, { name := "H", type := 31, offset := 4, embedded := false, tag := "", pkgPath := "", byteOffset := 16 }, { name := "M", type := 32, offset := 12, embedded := false, tag := "", pkgPath := "", byteOffset := 48 }, { name := "T", type := 33, offset := 28, embedded := false, tag := "", pkgPath := "", byteOffset := 112 }]) := ⟨Try.underlying35⟩
instance : TyF Try.prog 35 [(30, 0), (31, 4), (32, 12), (33, 28)] := ⟨_, Try.underlying35, rfl⟩
instance : TyP Try.prog 35 [(0, 4), (4, 8), (12, 16), (28, 1)] := ⟨_, Try.underlying35, by kernel_rfl⟩
instance : TyI Try.prog 35 29 120 [.int .u32 0, .int .u32 0, .int .u32 0, .int .u32 0, .int .u32 0, .int .u32 0, .int .u32 0, .int .u32 0, .int .u32 0, .int .u32 0, .int .u32 0, .int .u32 0, .int .u32 0, .int .u32 0, .int .u32 0, .int .u32 0, .int .u32 0, .int .u32 0, .int .u32 0, .int .u32 0, .int .u32 0, .int .u32 0, .int .u32 0, .int .u32 0, .int .u32 0, .int .u32 0, .int .u32 0, .int .u32 0, .int .u64 0] := ⟨by kernel_rfl⟩
instance : Ty Try.prog 36 (TypeDesc.func #[30, 29, 29] #[30] false) := ⟨Try.underlying36⟩
instance : TyI Try.prog 36 1 8 [.nilFunc] := ⟨by kernel_rfl⟩
instance : Ty Try.prog 37 (TypeDesc.func #[31, 32, 33, 4] #[31] false) := ⟨Try.underlying37⟩
instance : TyI Try.prog 37 1 8 [.nilFunc] := ⟨by kernel_rfl⟩
instance : Ty Try.prog 38 (TypeDesc.func #[35, 4] #[4] false) := ⟨Try.underlying38⟩
instance : TyI Try.prog 38 1 8 [.nilFunc] := ⟨by kernel_rfl⟩
instance : Ty Try.prog 39 (TypeDesc.array 2 29) := ⟨Try.underlying39⟩
instance : TyI Try.prog 39 2 8 [.int .u32 0, .int .u32 0] := ⟨by kernel_rfl⟩
instance : Ty Try.prog 40 (TypeDesc.func #[30, 30, 39] #[4] false) := ⟨Try.underlying40⟩
instance : TyI Try.prog 40 1 8 [.nilFunc] := ⟨by kernel_rfl⟩
instance : Ty Try.prog 41 (TypeDesc.slice 44) := ⟨Try.underlying41⟩
instance : TyI Try.prog 41 1 24 [.slice none 0 0] := ⟨by kernel_rfl⟩
instance : Ty Try.prog 42 (TypeDesc.pointer 69) := ⟨Try.underlying42⟩
instance : TyI Try.prog 42 1 8 [.pointer none] := ⟨by kernel_rfl⟩
instance : Ty Try.prog 43 (TypeDesc.func #[] #[42] false) := ⟨Try.underlying43⟩
instance : TyI Try.prog 43 1 8 [.nilFunc] := ⟨by kernel_rfl⟩
instance : Ty Try.prog 44 (TypeDesc.slice 9) := ⟨Try.underlying44⟩
instance : TyI Try.prog 44 1 24 [.slice none 0 0] := ⟨by kernel_rfl⟩
instance : Ty Try.prog 45 (TypeDesc.func #[44] #[3] true) := ⟨Try.underlying45⟩
instance : TyI Try.prog 45 1 8 [.nilFunc] := ⟨by kernel_rfl⟩
instance : Ty Try.prog 46 (TypeDesc.func #[] #[9] false) := ⟨Try.underlying46⟩
instance : TyI Try.prog 46 1 8 [.nilFunc] := ⟨by kernel_rfl⟩
instance : Ty Try.prog 47 (TypeDesc.func #[41] #[4] false) := ⟨Try.underlying47⟩
instance : TyI Try.prog 47 1 8 [.nilFunc] := ⟨by kernel_rfl⟩
instance : Ty Try.prog 48 (TypeDesc.func #[9] #[9, 25] false) := ⟨Try.underlying48⟩
instance : TyI Try.prog 48 1 8 [.nilFunc] := ⟨by kernel_rfl⟩
instance : Ty Try.prog 49 (TypeDesc.func #[9, 9, 9] #[4] false) := ⟨Try.underlying49⟩
instance : TyI Try.prog 49 1 8 [.nilFunc] := ⟨by kernel_rfl⟩
instance : Ty Try.prog 50 (TypeDesc.slice 5) := ⟨Try.underlying50⟩
instance : TyI Try.prog 50 1 24 [.slice none 0 0] := ⟨by kernel_rfl⟩
instance : Ty Try.prog 51 (TypeDesc.struct #[{ name := "chain", type := 31, offset := 0, embedded := false, tag := "", pkgPath := "hopmesh/digest", byteOffset := 0 }, { name := "rest", type := 50, offset := 8, embedded := false, tag := "", pkgPath := "hopmesh/digest", byteOffset := 32 }, { name := "count", type := 33, offset := 9, embedded := false, tag := "", pkgPath := "hopmesh/digest", byteOffset := 56 }]) := ⟨Try.underlying51⟩
instance : TyF Try.prog 51 [(31, 0), (50, 8), (33, 9)] := ⟨_, Try.underlying51, rfl⟩
instance : TyP Try.prog 51 [(0, 8), (8, 1), (9, 1)] := ⟨_, Try.underlying51, by kernel_rfl⟩
instance : TyI Try.prog 51 10 64 [.int .u32 0, .int .u32 0, .int .u32 0, .int .u32 0, .int .u32 0, .int .u32 0, .int .u32 0, .int .u32 0, .slice none 0 0, .int .u64 0] := ⟨by kernel_rfl⟩
instance : Ty Try.prog 52 (TypeDesc.struct #[{ name := "chain", type := 31, offset := 0, embedded := false, tag := "", pkgPath := "hopmesh/digest", byteOffset := 0 }, { name := "rest", type := 50, offset := 8, embedded := false, tag := "", pkgPath := "hopmesh/digest", byteOffset := 32 }, { name := "count", type := 33, offset := 9, embedded := false, tag := "", pkgPath := "hopmesh/digest", byteOffset := 56 }]) := ⟨Try.underlying52⟩
instance : TyF Try.prog 52 [(31, 0), (50, 8), (33, 9)] := ⟨_, Try.underlying52, rfl⟩
instance : TyP Try.prog 52 [(0, 8), (8, 1), (9, 1)] := ⟨_, Try.underlying52, by kernel_rfl⟩
instance : TyI Try.prog 52 10 64 [.int .u32 0, .int .u32 0, .int .u32 0, .int .u32 0, .int .u32 0, .int .u32 0, .int .u32 0, .int .u32 0, .slice none 0 0, .int .u64 0] := ⟨by kernel_rfl⟩
instance : Ty Try.prog 53 (TypeDesc.func #[9] #[52] false) := ⟨Try.underlying53⟩
instance : TyI Try.prog 53 1 8 [.nilFunc] := ⟨by kernel_rfl⟩
instance : Ty Try.prog 54 (TypeDesc.func #[9] #[] false) := ⟨Try.underlying54⟩
instance : TyI Try.prog 54 1 8 [.nilFunc] := ⟨by kernel_rfl⟩
instance : Ty Try.prog 55 (TypeDesc.func #[3, 9] #[9] false) := ⟨Try.underlying55⟩
instance : TyI Try.prog 55 1 8 [.nilFunc] := ⟨by kernel_rfl⟩
instance : Ty Try.prog 56 (TypeDesc.func #[29, 3] #[29] false) := ⟨Try.underlying56⟩
instance : TyI Try.prog 56 1 8 [.nilFunc] := ⟨by kernel_rfl⟩
instance : Ty Try.prog 57 (TypeDesc.func #[] #[31] false) := ⟨Try.underlying57⟩
instance : TyI Try.prog 57 1 8 [.nilFunc] := ⟨by kernel_rfl⟩
instance : Ty Try.prog 58 (TypeDesc.slice 29) := ⟨Try.underlying58⟩
instance : TyI Try.prog 58 1 24 [.slice none 0 0] := ⟨by kernel_rfl⟩
instance : Ty Try.prog 59 (TypeDesc.int IntKind.u64) := ⟨Try.underlying59⟩
instance : TyI Try.prog 59 1 8 [.int .u64 0] := ⟨by kernel_rfl⟩
instance : Ty Try.prog 60 (TypeDesc.func #[3] #[9] false) := ⟨Try.underlying60⟩
instance : TyI Try.prog 60 1 8 [.nilFunc] := ⟨by kernel_rfl⟩
instance : Ty Try.prog 61 (TypeDesc.array 4 3) := ⟨Try.underlying61⟩
instance : TyI Try.prog 61 4 32 [.int .i64 0, .int .i64 0, .int .i64 0, .int .i64 0] := ⟨by kernel_rfl⟩
instance : Ty Try.prog 62 (TypeDesc.func #[3] #[61] false) := ⟨Try.underlying62⟩
instance : TyI Try.prog 62 1 8 [.nilFunc] := ⟨by kernel_rfl⟩
instance : Ty Try.prog 63 (TypeDesc.func #[5] #[3] false) := ⟨Try.underlying63⟩
instance : TyI Try.prog 63 1 8 [.nilFunc] := ⟨by kernel_rfl⟩
instance : Ty Try.prog 64 (TypeDesc.array 16 3) := ⟨Try.underlying64⟩
instance : TyI Try.prog 64 16 128 [.int .i64 0, .int .i64 0, .int .i64 0, .int .i64 0, .int .i64 0, .int .i64 0, .int .i64 0, .int .i64 0, .int .i64 0, .int .i64 0, .int .i64 0, .int .i64 0, .int .i64 0, .int .i64 0, .int .i64 0, .int .i64 0] := ⟨by kernel_rfl⟩
instance : Ty Try.prog 65 (TypeDesc.array 10 64) := ⟨Try.underlying65⟩
instance : TyI Try.prog 65 160 1280 [.int .i64 0, .int .i64 0, .int .i64 0, .int .i64 0, .int .i64 0, .int .i64 0, .int .i64 0, .int .i64 0, .int .i64 0, .int .i64 0, .int .i64 0, .int .i64 0, .int .i64 0, .int .i64 0, .int .i64 0, .int .i64 0, .int .i64 0, .int .i64 0, .int .i64 0, .int .i64 0, .int .i64 0, .int .i64 0, .int .i64 0, .int .i64 0, .int .i64 0, .int .i64 0, .int .i64 0, .int .i64 0, .int .i64 0, .int .i64 0, .int .i64 0, .int .i64 0, .int .i64 0, .int .i64 0, .int .i64 0, .int .i64 0, .int .i64 0, .int .i64 0, .int .i64 0, .int .i64 0, .int .i64 0, .int .i64 0, .int .i64 0, .int .i64 0, .int .i64 0, .int .i64 0, .int .i64 0, .int .i64 0, .int .i64 0, .int .i64 0, .int .i64 0, .int .i64 0, .int .i64 0, .int .i64 0, .int .i64 0, .int .i64 0, .int .i64 0, .int .i64 0, .int .i64 0, .int .i64 0, .int .i64 0, .int .i64 0, .int .i64 0, .int .i64 0, .int .i64 0, .int .i64 0, .int .i64 0, .int .i64 0, .int .i64 0, .int .i64 0, .int .i64 0, .int .i64 0, .int .i64 0, .int .i64 0, .int .i64 0, .int .i64 0, .int .i64 0, .int .i64 0, .int .i64 0, .int .i64 0, .int .i64 0, .int .i64 0, .int .i64 0, .int .i64 0, .int .i64 0, .int .i64 0, .int .i64 0, .int .i64 0, .int .i64 0, .int .i64 0, .int .i64 0, .int .i64 0, .int .i64 0, .int .i64 0, .int .i64 0, .int .i64 0, .int .i64 0, .int .i64 0, .int .i64 0, .int .i64 0, .int .i64 0, .int .i64 0, .int .i64 0, .int .i64 0, .int .i64 0, .int .i64 0, .int .i64 0, .int .i64 0, .int .i64 0, .int .i64 0, .int .i64 0, .int .i64 0, .int .i64 0, .int .i64 0, .int .i64 0, .int .i64 0, .int .i64 0, .int .i64 0, .int .i64 0, .int .i64 0, .int .i64 0, .int .i64 0, .int .i64 0, .int .i64 0, .int .i64 0, .int .i64 0, .int .i64 0, .int .i64 0, .int .i64 0, .int .i64 0, .int .i64 0, .int .i64 0, .int .i64 0, .int .i64 0, .int .i64 0, .int .i64 0, .int .i64 0, .int .i64 0, .int .i64 0, .int .i64 0, .int .i64 0, .int .i64 0, .int .i64 0, .int .i64 0, .int .i64 0, .int .i64 0, .int .i64 0, .int .i64 0, .int .i64 0, .int .i64 0, .int .i64 0, .int .i64 0, .int .i64 0, .int .i64 0, .int .i64 0, .int .i64 0, .int .i64 0, .int .i64 0, .int .i64 0, .int .i64 0] := ⟨by kernel_rfl⟩
instance : Ty Try.prog 66 (TypeDesc.func #[] #[65] false) := ⟨Try.underlying66⟩
instance : TyI Try.prog 66 1 8 [.nilFunc] := ⟨by kernel_rfl⟩
instance : Ty Try.prog 67 (TypeDesc.array 8 61) := ⟨Try.underlying67⟩
instance : TyI Try.prog 67 32 256 [.int .i64 0, .int .i64 0, .int .i64 0, .int .i64 0, .int .i64 0, .int .i64 0, .int .i64 0, .int .i64 0, .int .i64 0, .int .i64 0, .int .i64 0, .int .i64 0, .int .i64 0, .int .i64 0, .int .i64 0, .int .i64 0, .int .i64 0, .int .i64 0, .int .i64 0, .int .i64 0, .int .i64 0, .int .i64 0, .int .i64 0, .int .i64 0, .int .i64 0, .int .i64 0, .int .i64 0, .int .i64 0, .int .i64 0, .int .i64 0, .int .i64 0, .int .i64 0] := ⟨by kernel_rfl⟩
instance : Ty Try.prog 68 (TypeDesc.struct #[{ name := "state", type := 52, offset := 0, embedded := false, tag := "", pkgPath := "hopmesh/digest", byteOffset := 0 }, { name := "taken", type := 3, offset := 10, embedded := false, tag := "", pkgPath := "hopmesh/digest", byteOffset := 64 }]) := ⟨Try.underlying68⟩
instance : TyF Try.prog 68 [(52, 0), (3, 10)] := ⟨_, Try.underlying68, rfl⟩
instance : TyP Try.prog 68 [(0, 10), (10, 1)] := ⟨_, Try.underlying68, by kernel_rfl⟩
instance : TyI Try.prog 68 11 72 [.int .u32 0, .int .u32 0, .int .u32 0, .int .u32 0, .int .u32 0, .int .u32 0, .int .u32 0, .int .u32 0, .slice none 0 0, .int .u64 0, .int .i64 0] := ⟨by kernel_rfl⟩
instance : Ty Try.prog 69 (TypeDesc.struct #[{ name := "state", type := 52, offset := 0, embedded := false, tag := "", pkgPath := "hopmesh/digest", byteOffset := 0 }, { name := "taken", type := 3, offset := 10, embedded := false, tag := "", pkgPath := "hopmesh/digest", byteOffset := 64 }]) := ⟨Try.underlying69⟩
instance : TyF Try.prog 69 [(52, 0), (3, 10)] := ⟨_, Try.underlying69, rfl⟩
instance : TyP Try.prog 69 [(0, 10), (10, 1)] := ⟨_, Try.underlying69, by kernel_rfl⟩
instance : TyI Try.prog 69 11 72 [.int .u32 0, .int .u32 0, .int .u32 0, .int .u32 0, .int .u32 0, .int .u32 0, .int .u32 0, .int .u32 0, .slice none 0 0, .int .u64 0, .int .i64 0] := ⟨by kernel_rfl⟩
instance : Ty Try.prog 70 (TypeDesc.pointer 52) := ⟨Try.underlying70⟩
instance : TyI Try.prog 70 1 8 [.pointer none] := ⟨by kernel_rfl⟩
instance : Ty Try.prog 71 (TypeDesc.func #[50] #[32] false) := ⟨Try.underlying71⟩
instance : TyI Try.prog 71 1 8 [.nilFunc] := ⟨by kernel_rfl⟩
instance : Ty Try.prog 72 (TypeDesc.func #[9] #[32] false) := ⟨Try.underlying72⟩
instance : TyI Try.prog 72 1 8 [.nilFunc] := ⟨by kernel_rfl⟩
instance : Ty Try.prog 73 (TypeDesc.array 10 9) := ⟨Try.underlying73⟩
instance : TyI Try.prog 73 10 160 [.string .empty, .string .empty, .string .empty, .string .empty, .string .empty, .string .empty, .string .empty, .string .empty, .string .empty, .string .empty] := ⟨by kernel_rfl⟩
instance : Ty Try.prog 74 (TypeDesc.struct #[{ name := "_interface", type := 17, offset := 0, embedded := false, tag := "", pkgPath := "runtime", byteOffset := 0 }, { name := "concrete", type := 17, offset := 1, embedded := false, tag := "", pkgPath := "runtime", byteOffset := 8 }, { name := "asserted", type := 17, offset := 2, embedded := false, tag := "", pkgPath := "runtime", byteOffset := 16 }, { name := "missingMethod", type := 9, offset := 3, embedded := false, tag := "", pkgPath := "runtime", byteOffset := 24 }]) := ⟨Try.underlying74⟩
instance : TyF Try.prog 74 [(17, 0), (17, 1), (17, 2), (9, 3)] := ⟨_, Try.underlying74, rfl⟩
instance : TyP Try.prog 74 [(0, 1), (1, 1), (2, 1), (3, 1)] := ⟨_, Try.underlying74, by kernel_rfl⟩
instance : TyI Try.prog 74 4 40 [.pointer none, .pointer none, .pointer none, .string .empty] := ⟨by kernel_rfl⟩
instance : Ty Try.prog 75 (TypeDesc.struct #[{ name := "_interface", type := 17, offset := 0, embedded := false, tag := "", pkgPath := "runtime", byteOffset := 0 }, { name := "concrete", type := 17, offset := 1, embedded := false, tag := "", pkgPath := "runtime", byteOffset := 8 }, { name := "asserted", type := 17, offset := 2, embedded := false, tag := "", pkgPath := "runtime", byteOffset := 16 }, { name := "missingMethod", type := 9, offset := 3, embedded := false, tag := "", pkgPath := "runtime", byteOffset := 24 }]) := ⟨Try.underlying75⟩
instance : TyF Try.prog 75 [(17, 0), (17, 1), (17, 2), (9, 3)] := ⟨_, Try.underlying75, rfl⟩
instance : TyP Try.prog 75 [(0, 1), (1, 1), (2, 1), (3, 1)] := ⟨_, Try.underlying75, by kernel_rfl⟩
instance : TyI Try.prog 75 4 40 [.pointer none, .pointer none, .pointer none, .string .empty] := ⟨by kernel_rfl⟩
instance : Ty Try.prog 76 (TypeDesc.array 0 16) := ⟨Try.underlying76⟩
instance : Ty Try.prog 77 (TypeDesc.struct #[{ name := "_", type := 76, offset := 0, embedded := false, tag := "", pkgPath := "runtime", byteOffset := 0 }]) := ⟨Try.underlying77⟩
instance : TyF Try.prog 77 [(76, 0)] := ⟨_, Try.underlying77, rfl⟩
instance : TyP Try.prog 77 [(0, 0)] := ⟨_, Try.underlying77, by kernel_rfl⟩
instance : Ty Try.prog 78 (TypeDesc.struct #[{ name := "_", type := 76, offset := 0, embedded := false, tag := "", pkgPath := "runtime", byteOffset := 0 }]) := ⟨Try.underlying78⟩
instance : TyF Try.prog 78 [(76, 0)] := ⟨_, Try.underlying78, rfl⟩
instance : TyP Try.prog 78 [(0, 0)] := ⟨_, Try.underlying78, by kernel_rfl⟩
instance : Ty Try.prog 79 (TypeDesc.func #[] #[3] false) := ⟨Try.underlying79⟩
instance : TyI Try.prog 79 1 8 [.nilFunc] := ⟨by kernel_rfl⟩
instance : Ty Try.prog 80 (TypeDesc.int IntKind.u8) := ⟨Try.underlying80⟩
instance : TyI Try.prog 80 1 1 [.int .u8 0] := ⟨by kernel_rfl⟩
instance : Ty Try.prog 81 (TypeDesc.int IntKind.u8) := ⟨Try.underlying81⟩
instance : TyI Try.prog 81 1 1 [.int .u8 0] := ⟨by kernel_rfl⟩
instance : Ty Try.prog 82 (TypeDesc.func #[88, 88] #[4] false) := ⟨Try.underlying82⟩
instance : TyI Try.prog 82 1 8 [.nilFunc] := ⟨by kernel_rfl⟩
instance : Ty Try.prog 83 (TypeDesc.pointer 5) := ⟨Try.underlying83⟩
instance : TyI Try.prog 83 1 8 [.pointer none] := ⟨by kernel_rfl⟩
instance : Ty Try.prog 84 (TypeDesc.int IntKind.i32) := ⟨Try.underlying84⟩
instance : TyI Try.prog 84 1 4 [.int .i32 0] := ⟨by kernel_rfl⟩
instance : Ty Try.prog 85 (TypeDesc.int IntKind.i32) := ⟨Try.underlying85⟩
instance : TyI Try.prog 85 1 4 [.int .i32 0] := ⟨by kernel_rfl⟩
instance : Ty Try.prog 86 (TypeDesc.struct #[{ name := "Size_", type := 12, offset := 0, embedded := false, tag := "", pkgPath := "", byteOffset := 0 }, { name := "PtrBytes", type := 12, offset := 1, embedded := false, tag := "", pkgPath := "", byteOffset := 8 }, { name := "Hash", type := 29, offset := 2, embedded := false, tag := "", pkgPath := "", byteOffset := 16 }, { name := "TFlag", type := 80, offset := 3, embedded := false, tag := "", pkgPath := "", byteOffset := 20 }, { name := "Align_", type := 5, offset := 4, embedded := false, tag := "", pkgPath := "", byteOffset := 21 }, { name := "FieldAlign_", type := 5, offset := 5, embedded := false, tag := "", pkgPath := "", byteOffset := 22 }, { name := "Kind_", type := 81, offset := 6, embedded := false, tag := "", pkgPath := "", byteOffset := 23 }, { name := "Equal", type := 82, offset := 7, embedded := false, tag := "", pkgPath := "", byteOffset := 24 }, { name := "GCData", type := 83, offset := 8, embedded := false, tag := "", pkgPath := "", byteOffset := 32 }, { name := "Str", type := 84, offset := 9, embedded := false, tag := "", pkgPath := "", byteOffset := 40 }, { name := "PtrToThis", type := 85, offset := 10, embedded := false, tag := "", pkgPath := "", byteOffset := 44 }]) := ⟨Try.underlying86⟩
instance : TyF Try.prog 86 [(12, 0), (12, 1), (29, 2), (80, 3), (5, 4), (5, 5), (81, 6), (82, 7), (83, 8), (84, 9), (85, 10)] := ⟨_, Try.underlying86, rfl⟩
instance : TyP Try.prog 86 [(0, 1), (1, 1), (2, 1), (3, 1), (4, 1), (5, 1), (6, 1), (7, 1), (8, 1), (9, 1), (10, 1)] := ⟨_, Try.underlying86, by kernel_rfl⟩
instance : TyI Try.prog 86 11 48 [.int .u64 0, .int .u64 0, .int .u32 0, .int .u8 0, .int .u8 0, .int .u8 0, .int .u8 0, .nilFunc, .pointer none, .int .i32 0, .int .i32 0] := ⟨by kernel_rfl⟩
instance : Ty Try.prog 87 (TypeDesc.struct #[{ name := "Size_", type := 12, offset := 0, embedded := false, tag := "", pkgPath := "", byteOffset := 0 }, { name := "PtrBytes", type := 12, offset := 1, embedded := false, tag := "", pkgPath := "", byteOffset := 8 }, { name := "Hash", type := 29, offset := 2, embedded := false, tag := "", pkgPath := "", byteOffset := 16 }, { name := "TFlag", type := 80, offset := 3, embedded := false, tag := "", pkgPath := "", byteOffset := 20 }, { name := "Align_", type := 5, offset := 4, embedded := false, tag := "", pkgPath := "", byteOffset := 21 }, { name := "FieldAlign_", type := 5, offset := 5, embedded := false, tag := "", pkgPath := "", byteOffset := 22 }, { name := "Kind_", type := 81, offset := 6, embedded := false, tag := "", pkgPath := "", byteOffset := 23 }, { name := "Equal", type := 82, offset := 7, embedded := false, tag := "", pkgPath := "", byteOffset := 24 }, { name := "GCData", type := 83, offset := 8, embedded := false, tag := "", pkgPath := "", byteOffset := 32 }, { name := "Str", type := 84, offset := 9, embedded := false, tag := "", pkgPath := "", byteOffset := 40 }, { name := "PtrToThis", type := 85, offset := 10, embedded := false, tag := "", pkgPath := "", byteOffset := 44 }]) := ⟨Try.underlying87⟩
instance : TyF Try.prog 87 [(12, 0), (12, 1), (29, 2), (80, 3), (5, 4), (5, 5), (81, 6), (82, 7), (83, 8), (84, 9), (85, 10)] := ⟨_, Try.underlying87, rfl⟩
instance : TyP Try.prog 87 [(0, 1), (1, 1), (2, 1), (3, 1), (4, 1), (5, 1), (6, 1), (7, 1), (8, 1), (9, 1), (10, 1)] := ⟨_, Try.underlying87, by kernel_rfl⟩
instance : TyI Try.prog 87 11 48 [.int .u64 0, .int .u64 0, .int .u32 0, .int .u8 0, .int .u8 0, .int .u8 0, .int .u8 0, .nilFunc, .pointer none, .int .i32 0, .int .i32 0] := ⟨by kernel_rfl⟩
instance : Ty Try.prog 88 (TypeDesc.unsafePointer) := ⟨Try.underlying88⟩
instance : FnI Try.prog 2 := ⟨_, Try.func2, by decide, by kernel_rfl⟩
instance : FnI Try.prog 3 := ⟨_, Try.func3, by decide, by kernel_rfl⟩
instance : FnI Try.prog 4 := ⟨_, Try.func4, by decide, by kernel_rfl⟩
instance : FnI Try.prog 5 := ⟨_, Try.func5, by decide, by kernel_rfl⟩
instance : FnI Try.prog 6 := ⟨_, Try.func6, by decide, by kernel_rfl⟩
instance : FnI Try.prog 7 := ⟨_, Try.func7, by decide, by kernel_rfl⟩
instance : FnI Try.prog 8 := ⟨_, Try.func8, by decide, by kernel_rfl⟩
instance : FnI Try.prog 9 := ⟨_, Try.func9, by decide, by kernel_rfl⟩
instance : FnI Try.prog 10 := ⟨_, Try.func10, by decide, by kernel_rfl⟩
instance : FnI Try.prog 11 := ⟨_, Try.func11, by decide, by kernel_rfl⟩
instance : FnI Try.prog 12 := ⟨_, Try.func12, by decide, by kernel_rfl⟩
instance : FnI Try.prog 13 := ⟨_, Try.func13, by decide, by kernel_rfl⟩
instance : FnI Try.prog 14 := ⟨_, Try.func14, by decide, by kernel_rfl⟩
instance : FnI Try.prog 15 := ⟨_, Try.func15, by decide, by kernel_rfl⟩
instance : FnI Try.prog 16 := ⟨_, Try.func16, by decide, by kernel_rfl⟩
instance : FnI Try.prog 17 := ⟨_, Try.func17, by decide, by kernel_rfl⟩
instance : FnI Try.prog 18 := ⟨_, Try.func18, by decide, by kernel_rfl⟩
instance : FnI Try.prog 19 := ⟨_, Try.func19, by decide, by kernel_rfl⟩
instance : FnI Try.prog 20 := ⟨_, Try.func20, by decide, by kernel_rfl⟩
instance : FnI Try.prog 21 := ⟨_, Try.func21, by decide, by kernel_rfl⟩
instance : FnI Try.prog 22 := ⟨_, Try.func22, by decide, by kernel_rfl⟩
instance : FnI Try.prog 23 := ⟨_, Try.func23, by decide, by kernel_rfl⟩
instance : FnI Try.prog 24 := ⟨_, Try.func24, by decide, by kernel_rfl⟩
instance : FnI Try.prog 25 := ⟨_, Try.func25, by decide, by kernel_rfl⟩
instance : FnI Try.prog 26 := ⟨_, Try.func26, by decide, by kernel_rfl⟩
instance : FnI Try.prog 27 := ⟨_, Try.func27, by decide, by kernel_rfl⟩
instance : FnI Try.prog 28 := ⟨_, Try.func28, by decide, by kernel_rfl⟩
instance : FnI Try.prog 29 := ⟨_, Try.func29, by decide, by kernel_rfl⟩
instance : FnI Try.prog 30 := ⟨_, Try.func30, by decide, by kernel_rfl⟩
instance : FnI Try.prog 31 := ⟨_, Try.func31, by decide, by kernel_rfl⟩
instance : FnI Try.prog 32 := ⟨_, Try.func32, by decide, by kernel_rfl⟩
instance : FnI Try.prog 33 := ⟨_, Try.func33, by decide, by kernel_rfl⟩
instance : FnI Try.prog 34 := ⟨_, Try.func34, by decide, by kernel_rfl⟩
instance : FnI Try.prog 35 := ⟨_, Try.func35, by decide, by kernel_rfl⟩
instance : FnI Try.prog 36 := ⟨_, Try.func36, by decide, by kernel_rfl⟩
instance : FnI Try.prog 37 := ⟨_, Try.func37, by decide, by kernel_rfl⟩
instance : FnI Try.prog 38 := ⟨_, Try.func38, by decide, by kernel_rfl⟩
end Go.Proofs.Ytclaiphadaeinaa
