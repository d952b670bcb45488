/- Bits: writers without an error. -/
import Derived.Test.YtdbcbclapipgdaaGreatDoorVO
import Derived.Test.YtdbcbclapipgdaaGreatDoorJ
import Derived.Test.YtdbcbclapipgdaaGreatDoorC7
import Derived.Test.YtdbcbclapipgdaaGreatDoorC8
set_option linter.unusedVariables false
set_option linter.unusedSimpArgs false
namespace Go.Proofs.YtdbcbclapipgdaaGreatDoor
open Go Av
set_option maxRecDepth 20000
theorem ac_runs0 (w x : Int) (bs bs' : List Int) (h : 1 ≤ w ∧ w ≤ 63) (hx : 0 ≤ x ∧ x < 2 ^ w.toNat) (hl : bs.length + w ≤ 524288) (hb : bs ++ bitsOf w.toNat x = bs') : ACalls Tryz.prog 129 [.pointer (some ⟨0, 0, none⟩), .int .i64 w, .int .i64 x] [some ⟨[.slice (some ⟨1, 0, none⟩) bs.length bs.length, .int .i64 0], true, 1⟩, some ⟨List.map (Value.int .u8) bs, true, 1⟩] (.tuple #[]) [some ⟨[.slice (some ⟨2, 0, none⟩) bs'.length bs'.length, .int .i64 0], true, 1⟩, none, some ⟨List.map (Value.int .u8) bs', true, 1⟩] :=
  ac_runsigned w x 0 0 bs bs' _ _ rfl (unsW_ok h hx hl hb) rfl (by omega) (by omega) (bd63 h hx)
theorem flgW_ok {bs bs' : List Int} {r : Bool} (hl : bs.length + 1 ≤ 524288) (hb : bs ++ bitsOf 1 (if r = true then 1 else 0) = bs') : flgW bs 0 r = (bs', 0) := by
  unfold flgW fieldW
  rw [if_neg (by simp), if_neg (by simp), if_neg (by simp), if_neg (by omega)]
  exact congrArg (·, 0) hb
theorem ac_rflag0 (r : Bool) (bs bs' : List Int) (hl : bs.length + 1 ≤ 524288) (hb : bs ++ bitsOf 1 (if r = true then 1 else 0) = bs') : ACalls Tryz.prog 127 [.pointer (some ⟨0, 0, none⟩), .bool r] [some ⟨[.slice (some ⟨1, 0, none⟩) bs.length bs.length, .int .i64 0], true, 1⟩, some ⟨List.map (Value.int .u8) bs, true, 1⟩] (.tuple #[]) [some ⟨[.slice (some ⟨2, 0, none⟩) bs'.length bs'.length, .int .i64 0], true, 1⟩, none, some ⟨List.map (Value.int .u8) bs', true, 1⟩] :=
  ac_rflag r 0 0 bs bs' _ _ rfl (flgW_ok hl hb) rfl (by omega)
theorem txtW_ok {bs bs' : List Int} {m : Int} {s : ByteArray} (hm : 1 ≤ m ∧ m ≤ 4095) (hs : (s.size : Int) ≤ m) (hl : bs.length + wdth m + 8 * s.size ≤ 524288) (hb : bs ++ bitsOf (wdth m).toNat s.size ++ strBits s s.size = bs') : txtW bs 0 m s = (bs', 0) := by
  unfold txtW
  rw [if_neg (by simp), if_neg (by simp [hm]), if_neg (by omega), hb]
theorem ac_rtext0 (m : Int) (s : ByteArray) (bs bs' : List Int) (hm : 1 ≤ m ∧ m ≤ 4095) (hs : (s.size : Int) ≤ m) (hl : bs.length + wdth m + 8 * s.size ≤ 524288) (hb : bs ++ bitsOf (wdth m).toNat s.size ++ strBits s s.size = bs') : ACalls Tryz.prog 128 [.pointer (some ⟨0, 0, none⟩), .int .i64 m, .string s] [some ⟨[.slice (some ⟨1, 0, none⟩) bs.length bs.length, .int .i64 0], true, 1⟩, some ⟨List.map (Value.int .u8) bs, true, 1⟩] (.tuple #[]) [some ⟨[.slice (some ⟨2, 0, none⟩) bs'.length bs'.length, .int .i64 0], true, 1⟩, none, some ⟨List.map (Value.int .u8) bs', true, 1⟩] :=
  ac_rtext m s 0 0 bs bs' _ _ rfl (txtW_ok hm hs hl hb) rfl (by have := wdth_bd m (by omega); omega) (by omega) (by omega)
theorem ac_rbytes0 (bs : List Int) (hl : bs.length ≤ 524288) (h : ∀ b ∈ bs, b = 0 ∨ b = 1) : ACalls Tryz.prog 130 [.pointer (some ⟨0, 0, none⟩)] [some ⟨[.slice (some ⟨1, 0, none⟩) bs.length bs.length, .int .i64 0], false, 1⟩, some ⟨List.map (Value.int .u8) bs, false, 1⟩] (.tuple #[.string (pkB bs), .int .i64 0]) [none, none] := ac_rbytes _ bs _ rfl rfl hl (fun b hb => by rcases h b hb with h | h <;> omega)
theorem ac_rnewW0 (bs : List Int) (h : [] = bs) : ACalls Tryz.prog 126 [] [] (.pointer (some ⟨0, 0, none⟩)) [some ⟨[.slice (some ⟨1, 0, none⟩) bs.length bs.length, .int .i64 0], true, 1⟩, some ⟨List.map (Value.int .u8) bs, true, 1⟩] := by subst h; exact ac_rnewW
theorem strBits_01 (t : ByteArray) : ∀ i, ∀ b ∈ strBits t i, b = 0 ∨ b = 1
  | 0, b, h => by simp [strBits] at h
  | i + 1, b, h => by
    rw [strBits] at h
    rcases List.mem_append.1 h with h | h
    · exact strBits_01 t i b h
    · exact bitsOf_01 _ _ b h
end Go.Proofs.YtdbcbclapipgdaaGreatDoor
