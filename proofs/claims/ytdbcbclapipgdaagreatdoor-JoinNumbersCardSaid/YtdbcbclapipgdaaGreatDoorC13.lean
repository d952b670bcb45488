/- Bits: the reader's end, the reference's reader; Bits: packed bytes; Bits: writers without an error. -/
import Derived.Test.YtdbcbclapipgdaaGreatDoorVO
import Derived.Test.YtdbcbclapipgdaaGreatDoorJ
import Derived.Test.YtdbcbclapipgdaaGreatDoorC11
import Derived.Test.YtdbcbclapipgdaaGreatDoorC12
set_option linter.unusedVariables false
set_option linter.unusedSimpArgs false
namespace Go.Proofs.YtdbcbclapipgdaaGreatDoor
open Go Av
set_option maxRecDepth 20000
theorem ac_closeR (e c : Int) (a : Nat) (d : ByteArray) (hst : closeR d a e = c) (ha : a ≤ 8 * d.size) (hd : d.size ≤ 1000000) : ACalls Tryz.prog 99 [.pointer (some ⟨0, 0, none⟩)] [some ⟨[.string d, .int .i64 (a : Int), .int .i64 e], false, 1⟩] (.int .i64 c) [none] := by
  unfold closeR at hst
  by_cases he : e = 0
  · subst he
    rw [if_neg (by simp)] at hst
    have HL := ac_left a d (by omega) hd
    by_cases h8 : 8 ≤ 8 * d.size - a
    · rw [if_pos (.inl h8)] at hst
      subst hst
      refine acalls_law Tryz.func99 rfl rfl rfl ?_
      repeat' first | intro h1 | refine st ?_ | refine stRW [0] HL ?_ | refine st (h := ok_makeFunc (by ((repeat (apply ArgsR.cons; rfl)); exact ArgsR.nil)) (by ((repeat (apply ArgsR.cons; rfl)); exact ArgsR.nil))) ?_ | refine stm ?_ | refine Ja ?_ | refine Jb ?_ | refine Jc ?_ | refine Jd ?_ | refine Je ?_ | refine Jf ?_ | refine Jg ?_ | refine Jh ?_ ?_ | refine Ji ?_ ?_ | refine Jj ?_ ?_ | refine run_nil ?_ | refine Jz ?_ | refine Jw ?_ | refine aw_block ?_ | refine Jq ?_ | refine Jr ?_ | refine Js ?_ | refine Jt ?_ | refine Ju ?_ ?_ | refine Jv ?_ ?_ | refine Jy ?_ | refine aw_exit ?_ | refine aw_ret ?_ | refine pp_ret ?_ | refine pp_normal ?_
      all_goals first | rfl | (exfalso; omega)
    · have HO := ac_close1 a d ha (by omega) hd
      by_cases hr : rdN d a (8 * d.size - a) = 0
      · rw [if_neg (by rintro (h | h); exact h8 h; exact h hr)] at hst
        subst hst
        rw [hr, show decide (¬ (0 : Int) = 0) = false from rfl] at HO
        refine acalls_law Tryz.func99 rfl rfl rfl ?_
        repeat' first | intro h1 | refine st ?_ | refine stRW [0] HL ?_ | refine stRW [1, 0] HO ?_ | refine st (h := ok_makeFunc (by ((repeat (apply ArgsR.cons; rfl)); exact ArgsR.nil)) (by ((repeat (apply ArgsR.cons; rfl)); exact ArgsR.nil))) ?_ | refine stm ?_ | refine Ja ?_ | refine Jb ?_ | refine Jc ?_ | refine Jd ?_ | refine Je ?_ | refine Jf ?_ | refine Jg ?_ | refine Jh ?_ ?_ | refine Ji ?_ ?_ | refine Jj ?_ ?_ | refine run_nil ?_ | refine Jz ?_ | refine Jw ?_ | refine aw_block ?_ | refine Jq ?_ | refine Jr ?_ | refine Js ?_ | refine Jt ?_ | refine Ju ?_ ?_ | refine Jv ?_ ?_ | refine Jy ?_ | refine aw_exit ?_ | refine aw_ret ?_ | refine pp_ret ?_ | refine pp_normal ?_
        all_goals first | rfl | (exfalso; omega)
      · rw [if_pos (.inr hr)] at hst
        subst hst
        rw [decide_eq_true hr] at HO
        refine acalls_law Tryz.func99 rfl rfl rfl ?_
        repeat' first | intro h1 | refine st ?_ | refine stRW [0] HL ?_ | refine stRW [1, 0] HO ?_ | refine st (h := ok_makeFunc (by ((repeat (apply ArgsR.cons; rfl)); exact ArgsR.nil)) (by ((repeat (apply ArgsR.cons; rfl)); exact ArgsR.nil))) ?_ | refine stm ?_ | refine Ja ?_ | refine Jb ?_ | refine Jc ?_ | refine Jd ?_ | refine Je ?_ | refine Jf ?_ | refine Jg ?_ | refine Jh ?_ ?_ | refine Ji ?_ ?_ | refine Jj ?_ ?_ | refine run_nil ?_ | refine Jz ?_ | refine Jw ?_ | refine aw_block ?_ | refine Jq ?_ | refine Jr ?_ | refine Js ?_ | refine Jt ?_ | refine Ju ?_ ?_ | refine Jv ?_ ?_ | refine Jy ?_ | refine aw_exit ?_ | refine aw_ret ?_ | refine pp_ret ?_ | refine pp_normal ?_
        all_goals first | rfl | (exfalso; omega)
  · rw [if_pos he] at hst
    subst hst
    refine acalls_law Tryz.func99 rfl rfl rfl ?_
    repeat' first | intro h1 | refine st ?_ | refine st (h := ok_makeFunc (by ((repeat (apply ArgsR.cons; rfl)); exact ArgsR.nil)) (by ((repeat (apply ArgsR.cons; rfl)); exact ArgsR.nil))) ?_ | refine stm ?_ | refine Ja ?_ | refine Jb ?_ | refine Jc ?_ | refine Jd ?_ | refine Je ?_ | refine Jf ?_ | refine Jg ?_ | refine Jh ?_ ?_ | refine Ji ?_ ?_ | refine Jj ?_ ?_ | refine run_nil ?_ | refine Jz ?_ | refine Jw ?_ | refine aw_block ?_ | refine Jq ?_ | refine Jr ?_ | refine Js ?_ | refine Jt ?_ | refine Ju ?_ ?_ | refine Jv ?_ ?_ | refine Jy ?_ | refine aw_exit ?_ | refine aw_ret ?_ | refine pp_ret ?_ | refine pp_normal ?_
    all_goals first | rfl | (exfalso; omega)
/-- A string of packed bits. -/
def pkB (bs : List Int) : ByteArray := ⟨((pack bs).map b8).toArray⟩
theorem bitsOf_01 : ∀ (w : Nat) (x : Int), ∀ b ∈ bitsOf w x, b = 0 ∨ b = 1
  | 0, _, b, h => by cases h
  | w + 1, x, b, h => by
    rw [bitsOf, List.mem_cons] at h
    rcases h with rfl | h
    · omega
    · exact bitsOf_01 w x b h
/-- What a writer does with a number that fits. -/
theorem unsW_ok {bs bs' : List Int} {w x : Int} (h : 1 ≤ w ∧ w ≤ 63) (hx : 0 ≤ x ∧ x < 2 ^ w.toNat) (hl : bs.length + w ≤ 524288) (hb : bs ++ bitsOf w.toNat x = bs') : unsW bs 0 w x = (bs', 0) := by
  unfold unsW fieldW
  rw [if_neg (by simp), if_neg (by simp [h]), if_neg (by simp [hx]), if_neg (by omega), hb]
theorem bd63 {w x : Int} (h : 1 ≤ w ∧ w ≤ 63) (hx : 0 ≤ x ∧ x < 2 ^ w.toNat) : -9223372036854775808 ≤ x ∧ x ≤ 9223372036854775807 := by
  have : (2 : Int) ^ w.toNat ≤ 2 ^ 63 := by
    have := Nat.pow_le_pow_right (show 0 < 2 by decide) (show w.toNat ≤ 63 by omega)
    exact_mod_cast this
  have e : (2 : Int) ^ 63 = 9223372036854775808 := by decide
  omega
theorem ac_runs0 (w x : Int) (bs bs' : List Int) (h : 1 ≤ w ∧ w ≤ 63) (hx : 0 ≤ x ∧ x < 2 ^ w.toNat) (hl : bs.length + w ≤ 524288) (hb : bs ++ bitsOf w.toNat x = bs') : ACalls Tryz.prog 129 [.pointer (some ⟨0, 0, none⟩), .int .i64 w, .int .i64 x] [some ⟨[.slice (some ⟨1, 0, none⟩) bs.length bs.length, .int .i64 0], true, 1⟩, some ⟨List.map (Value.int .u8) bs, true, 1⟩] (.tuple #[]) [some ⟨[.slice (some ⟨2, 0, none⟩) bs'.length bs'.length, .int .i64 0], true, 1⟩, none, some ⟨List.map (Value.int .u8) bs', true, 1⟩] :=
  ac_runsigned w x 0 0 bs bs' _ _ rfl (unsW_ok h hx hl hb) rfl (by omega) (by omega) (bd63 h hx)
theorem flgW_ok {bs bs' : List Int} {r : Bool} (hl : bs.length + 1 ≤ 524288) (hb : bs ++ bitsOf 1 (if r = true then 1 else 0) = bs') : flgW bs 0 r = (bs', 0) := by
  unfold flgW fieldW
  rw [if_neg (by simp), if_neg (by simp), if_neg (by simp), if_neg (by omega)]
  exact congrArg (·, 0) hb
theorem ac_rflag0 (r : Bool) (bs bs' : List Int) (hl : bs.length + 1 ≤ 524288) (hb : bs ++ bitsOf 1 (if r = true then 1 else 0) = bs') : ACalls Tryz.prog 127 [.pointer (some ⟨0, 0, none⟩), .bool r] [some ⟨[.slice (some ⟨1, 0, none⟩) bs.length bs.length, .int .i64 0], true, 1⟩, some ⟨List.map (Value.int .u8) bs, true, 1⟩] (.tuple #[]) [some ⟨[.slice (some ⟨2, 0, none⟩) bs'.length bs'.length, .int .i64 0], true, 1⟩, none, some ⟨List.map (Value.int .u8) bs', true, 1⟩] :=
  ac_rflag r 0 0 bs bs' _ _ rfl (flgW_ok hl hb) rfl (by omega)
theorem txtW_ok {bs bs' : List Int} {m : Int} {s : ByteArray} (hm : 1 ≤ m ∧ m ≤ 4095) (hs : (s.size : Int) ≤ m) (hl : bs.length + wdth m + 8 * s.size ≤ 524288) (hb : bs ++ bitsOf (wdth m).toNat s.size ++ strBits s s.size = bs') : txtW bs 0 m s = (bs', 0) := by
  unfold txtW
  rw [if_neg (by simp), if_neg (by simp [hm]), if_neg (by omega), hb]
theorem ac_rtext0 (m : Int) (s : ByteArray) (bs bs' : List Int) (hm : 1 ≤ m ∧ m ≤ 4095) (hs : (s.size : Int) ≤ m) (hl : bs.length + wdth m + 8 * s.size ≤ 524288) (hb : bs ++ bitsOf (wdth m).toNat s.size ++ strBits s s.size = bs') : ACalls Tryz.prog 128 [.pointer (some ⟨0, 0, none⟩), .int .i64 m, .string s] [some ⟨[.slice (some ⟨1, 0, none⟩) bs.length bs.length, .int .i64 0], true, 1⟩, some ⟨List.map (Value.int .u8) bs, true, 1⟩] (.tuple #[]) [some ⟨[.slice (some ⟨2, 0, none⟩) bs'.length bs'.length, .int .i64 0], true, 1⟩, none, some ⟨List.map (Value.int .u8) bs', true, 1⟩] :=
  ac_rtext m s 0 0 bs bs' _ _ rfl (txtW_ok hm hs hl hb) rfl (by have := wdth_bd m (by omega); omega) (by omega) (by omega)
theorem ac_rbytes0 (bs : List Int) (hl : bs.length ≤ 524288) (h : ∀ b ∈ bs, b = 0 ∨ b = 1) : ACalls Tryz.prog 130 [.pointer (some ⟨0, 0, none⟩)] [some ⟨[.slice (some ⟨1, 0, none⟩) bs.length bs.length, .int .i64 0], false, 1⟩, some ⟨List.map (Value.int .u8) bs, false, 1⟩] (.tuple #[.string (pkB bs), .int .i64 0]) [none, none] := ac_rbytes _ bs _ rfl rfl hl (fun b hb => by rcases h b hb with h | h <;> omega)
theorem ac_rnewW0 (bs : List Int) (h : [] = bs) : ACalls Tryz.prog 126 [] [] (.pointer (some ⟨0, 0, none⟩)) [some ⟨[.slice (some ⟨1, 0, none⟩) bs.length bs.length, .int .i64 0], true, 1⟩, some ⟨List.map (Value.int .u8) bs, true, 1⟩] := by subst h; exact ac_rnewW
theorem strBits_01 (t : ByteArray) : ∀ i, ∀ b ∈ strBits t i, b = 0 ∨ b = 1
  | 0, b, h => by simp [strBits] at h
  | i + 1, b, h => by
    rw [strBits] at h
    rcases List.mem_append.1 h with h | h
    · exact strBits_01 t i b h
    · exact bitsOf_01 _ _ b h
end Go.Proofs.YtdbcbclapipgdaaGreatDoor
