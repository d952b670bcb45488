/- Digest: the reference's digests. -/
import Derived.Test.YtnicgkhffingmaaD8
import Derived.Test.YtnicgkhffingmaaD5
set_option linter.unusedVariables false
set_option linter.unusedSimpArgs false
namespace Go.Proofs.Ytnicgkhffingmaa
open Go Av
set_option maxRecDepth 20000
theorem wd_congr {g h : Nat → Int} : ∀ n, (∀ j, j < n → g j = h j) → wd g n = wd h n
  | 0, _ => rfl
  | n + 1, hh => by
    have ih := wd_congr n fun j hj => hh j (by omega)
    simp only [wd, ih, hh n (by omega)]
theorem extract_byte (s : ByteArray) (a b j : Nat) (h : j < b - a) : byteAt (s.extract a b) j = s.data.toList.getD (a + j) 0 := by
  unfold byteAt
  rw [List.getD_eq_getElem?_getD, List.getD_eq_getElem?_getD]
  congr 1
  rw [Array.getElem?_toList, Array.getElem?_toList, ByteArray.data_extract, Array.getElem?_extract]
  split
  · rfl
  · rename_i h'
    rw [Array.getElem?_eq_none]
    omega
theorem riv : ∀ k : Nat, k < 33 → x32 (x32 1779033703 16842784) (IntKind.u32.wrap ((k : Int) * 2 ^ (min (Int.toNat 8) IntKind.u32.bits))) = iv0 k := by decide +kernel
theorem rout (C : List Int) : [.int .u8 (IntKind.u8.wrap (C.getD 0 0 / 2 ^ (min (Int.toNat 0) IntKind.u32.bits))), .int .u8 (IntKind.u8.wrap (C.getD 0 0 / 2 ^ (min (Int.toNat 8) IntKind.u32.bits))), .int .u8 (IntKind.u8.wrap (C.getD 0 0 / 2 ^ (min (Int.toNat 16) IntKind.u32.bits))), .int .u8 (IntKind.u8.wrap (C.getD 0 0 / 2 ^ (min (Int.toNat 24) IntKind.u32.bits))), .int .u8 (IntKind.u8.wrap (C.getD 1 0 / 2 ^ (min (Int.toNat 0) IntKind.u32.bits))), .int .u8 (IntKind.u8.wrap (C.getD 1 0 / 2 ^ (min (Int.toNat 8) IntKind.u32.bits))), .int .u8 (IntKind.u8.wrap (C.getD 1 0 / 2 ^ (min (Int.toNat 16) IntKind.u32.bits))), .int .u8 (IntKind.u8.wrap (C.getD 1 0 / 2 ^ (min (Int.toNat 24) IntKind.u32.bits))), .int .u8 (IntKind.u8.wrap (C.getD 2 0 / 2 ^ (min (Int.toNat 0) IntKind.u32.bits))), .int .u8 (IntKind.u8.wrap (C.getD 2 0 / 2 ^ (min (Int.toNat 8) IntKind.u32.bits))), .int .u8 (IntKind.u8.wrap (C.getD 2 0 / 2 ^ (min (Int.toNat 16) IntKind.u32.bits))), .int .u8 (IntKind.u8.wrap (C.getD 2 0 / 2 ^ (min (Int.toNat 24) IntKind.u32.bits))), .int .u8 (IntKind.u8.wrap (C.getD 3 0 / 2 ^ (min (Int.toNat 0) IntKind.u32.bits))), .int .u8 (IntKind.u8.wrap (C.getD 3 0 / 2 ^ (min (Int.toNat 8) IntKind.u32.bits))), .int .u8 (IntKind.u8.wrap (C.getD 3 0 / 2 ^ (min (Int.toNat 16) IntKind.u32.bits))), .int .u8 (IntKind.u8.wrap (C.getD 3 0 / 2 ^ (min (Int.toNat 24) IntKind.u32.bits))), .int .u8 (IntKind.u8.wrap (C.getD 4 0 / 2 ^ (min (Int.toNat 0) IntKind.u32.bits))), .int .u8 (IntKind.u8.wrap (C.getD 4 0 / 2 ^ (min (Int.toNat 8) IntKind.u32.bits))), .int .u8 (IntKind.u8.wrap (C.getD 4 0 / 2 ^ (min (Int.toNat 16) IntKind.u32.bits))), .int .u8 (IntKind.u8.wrap (C.getD 4 0 / 2 ^ (min (Int.toNat 24) IntKind.u32.bits))), .int .u8 (IntKind.u8.wrap (C.getD 5 0 / 2 ^ (min (Int.toNat 0) IntKind.u32.bits))), .int .u8 (IntKind.u8.wrap (C.getD 5 0 / 2 ^ (min (Int.toNat 8) IntKind.u32.bits))), .int .u8 (IntKind.u8.wrap (C.getD 5 0 / 2 ^ (min (Int.toNat 16) IntKind.u32.bits))), .int .u8 (IntKind.u8.wrap (C.getD 5 0 / 2 ^ (min (Int.toNat 24) IntKind.u32.bits))), .int .u8 (IntKind.u8.wrap (C.getD 6 0 / 2 ^ (min (Int.toNat 0) IntKind.u32.bits))), .int .u8 (IntKind.u8.wrap (C.getD 6 0 / 2 ^ (min (Int.toNat 8) IntKind.u32.bits))), .int .u8 (IntKind.u8.wrap (C.getD 6 0 / 2 ^ (min (Int.toNat 16) IntKind.u32.bits))), .int .u8 (IntKind.u8.wrap (C.getD 6 0 / 2 ^ (min (Int.toNat 24) IntKind.u32.bits))), .int .u8 (IntKind.u8.wrap (C.getD 7 0 / 2 ^ (min (Int.toNat 0) IntKind.u32.bits))), .int .u8 (IntKind.u8.wrap (C.getD 7 0 / 2 ^ (min (Int.toNat 8) IntKind.u32.bits))), .int .u8 (IntKind.u8.wrap (C.getD 7 0 / 2 ^ (min (Int.toNat 16) IntKind.u32.bits))), .int .u8 (IntKind.u8.wrap (C.getD 7 0 / 2 ^ (min (Int.toNat 24) IntKind.u32.bits)))] = (outB C 8).map u8v := by
  have e0 : ∀ x : Int, x / 2 ^ (min (Int.toNat 0) IntKind.u32.bits) = x := fun x => by simp
  simp only [outB, List.nil_append, List.cons_append, List.append_nil, List.map_cons, List.map_nil, u8v_b8, e0]
structure Rgs where
  a : Int
  c0 : Int
  c1 : Int
  c2 : Int
  c3 : Int
  c4 : Int
  c5 : Int
  c6 : Int
  c7 : Int
end Go.Proofs.Ytnicgkhffingmaa
