/- Bits: the writer; Bits: writers without an error. -/
import Derived.Test.YtdbcbclapipgdaaGreatDoorVO
import Derived.Test.YtdbcbclapipgdaaGreatDoorJ
import Derived.Test.YtdbcbclapipgdaaGreatDoorC8
import Derived.Test.YtdbcbclapipgdaaGreatDoorC13
set_option linter.unusedVariables false
set_option linter.unusedSimpArgs false
namespace Go.Proofs.YtdbcbclapipgdaaGreatDoor
open Go Av
set_option maxRecDepth 20000
set_option maxHeartbeats 2000000 in
theorem ac_text (m : Int) (s : ByteArray) (e e' : Int) (bs bs' Z Z' : List Int) (n n' : Nat) (k k' : Int) (hZ : pack bs = Z) (hn : n = Z.length) (hk : k = bs.length) (hst : txtW bs e m s = (bs', e')) (hZ' : pack bs' = Z') (hn' : n' = Z'.length) (hk' : k' = bs'.length) (hl : bs.length ≤ 524288) (hm : -9223372036854775808 ≤ m ∧ m ≤ 9223372036854775807) (hs : s.size ≤ 1000000) :
    ACalls Tryz.prog 123 [.pointer (some ⟨0, 0, none⟩), .int .i64 m, .string s] [some ⟨[.slice (some ⟨1, 0, none⟩) n n, .int .i64 k, .int .i64 e], true, 1⟩, some ⟨List.map (Value.int .u8) Z, true, 1⟩] (.tuple #[]) [some ⟨[.slice (some ⟨2, 0, none⟩) n' n', .int .i64 k', .int .i64 e'], true, 1⟩, none, some ⟨List.map (Value.int .u8) Z', true, 1⟩] := by
  unfold txtW at hst
  have HLm := ac_limit m
  by_cases he : e = 0
  · subst he
    rw [if_neg (by simp)] at hst
    by_cases hr : 1 ≤ m ∧ m ≤ 4095
    · rw [if_neg (by simpa using hr)] at hst
      rw [decide_eq_true hr] at HLm
      have HW := ac_width m hm
      have hwb := wdth_bd m (by omega)
      by_cases hf : m < s.size ∨ bs.length + wdth m + 8 * s.size > 524288
      · rw [if_pos hf] at hst
        obtain ⟨rfl, rfl⟩ := Prod.mk.inj hst
        rw [hZ] at hZ'; subst hZ' hn hn' hk hk'
        refine acalls_of_aw Tryz.func123 rfl rfl ?_
        repeat' first | intro h1 | refine st ?_ | refine st_call (HLm) ?_ | refine st_call (HW) ?_ | refine stm ?_ | refine Ja ?_ | refine Jb ?_ | refine Jc ?_ | refine Jd ?_ | refine Je ?_ | refine Jf ?_ | refine Jg ?_ | refine Jh ?_ ?_ | refine Ji ?_ ?_ | refine Jj ?_ ?_ | refine run_nil ?_ | refine sd ?_ | refine sdl ?_ | refine sd_call (HLm) ?_ | refine sd_call (HW) ?_ | refine sdm (n := 1) ?_ | refine sdm ?_ | refine sdb ?_ | refine Jk ?_ | refine Jl ?_ | refine Jm ?_ | refine Jn ?_ ?_ | refine Jo ?_ ?_ | refine Jp ?_ ?_ | refine rund_nil ?_ | refine Jz ?_ | refine Jw ?_ | refine J0 (id := 9) [0,1,0,7,15,31,63,127,255,31,543,2047,31,4127,12319,32767,65535,131071,262143] 19 ?_ | refine aw_block ?_ | refine Jq ?_ | refine Jr ?_ | refine Js ?_ | refine Jt ?_ | refine Ju ?_ ?_ | refine Jv ?_ ?_ | refine Jy ?_ | refine aw_exit ?_ | refine aw_ret ?_ | refine pp_ret ?_ | refine pp_normal ?_
        all_goals first | exact pm_normal _ (renumD [0, 1, 1]) rfl | (exfalso; omega)
      · rw [if_neg hf] at hst
        obtain ⟨hb, rfl⟩ := Prod.mk.inj hst
        obtain ⟨bs1, hb1⟩ : ∃ bs1, bs ++ bitsOf (wdth m).toNat (s.size : Int) = bs1 := ⟨_, rfl⟩
        obtain ⟨Z1, hZ1⟩ : ∃ Z1, pack bs1 = Z1 := ⟨_, rfl⟩
        have hl1 := congrArg List.length hb1
        rw [List.length_append, bitsOf_len] at hl1
        have HP := ac_put (wdth m).toNat (s.size : Int) 0 bs bs1 Z Z1 n Z1.length k bs1.length (by omega) (by omega) hZ hn hk hb1 hZ1 rfl rfl (by omega)
        rw [show (((wdth m).toNat : Nat) : Int) = wdth m by omega] at HP
        rw [hb1] at hb
        have hl2 := congrArg List.length hb
        rw [List.length_append, strBits_len] at hl2
        refine acalls_of_aw Tryz.func123 rfl rfl ?_
        repeat' first | intro h1 | refine st ?_ | refine st_call (HLm) ?_ | refine st_call (HW) ?_ | refine stMW [0, 1] HP ?_ | refine stm ?_ | refine Ja ?_ | refine Jb ?_ | refine Jc ?_ | refine Jd ?_ | refine Je ?_ | refine Jf ?_ | refine Jg ?_ | refine Jh ?_ ?_ | refine Ji ?_ ?_ | refine Jj ?_ ?_ | refine run_nil ?_ | refine sd ?_ | refine sdl ?_ | refine sd_call (HLm) ?_ | refine sd_call (HW) ?_ | refine sdm (n := 1) ?_ | refine sdm ?_ | refine sdb ?_ | refine Jk ?_ | refine Jl ?_ | refine Jm ?_ | refine Jn ?_ ?_ | refine Jo ?_ ?_ | refine Jp ?_ ?_ | refine rund_nil ?_ | refine Jz ?_ | refine Jw ?_ | refine J0 (id := 9) [0,1,0,7,15,31,63,127,255,31,543,2047,31,4127,12319,32767,65535,131071,262143] 19 ?_ | refine aw_block ?_ | refine Jq ?_ | refine Jr ?_ | refine Js ?_ | refine Jt ?_ | refine Ju ?_ ?_ | refine Jv ?_ ?_ | refine Jy ?_ | refine aw_exit ?_ | refine aw_ret ?_ | refine pp_ret ?_ | refine pp_normal ?_
        refine aw_loopg
          (S := fun y : Tg => [(0, .pointer (some ⟨0, 0, none⟩)), (2, .string s), (15, .int .i64 s.size), (16, .int .i64 y.i)])
          (B := fun y : Tg => [some ⟨[.slice (some ⟨2, 0, none⟩) y.n y.n, .int .i64 y.k, .int .i64 0], true, 1⟩, none, some ⟨List.map (Value.int .u8) y.Z, true, 1⟩])
          (R := fun y : Tg => y.i ≤ s.size ∧ y.bs = bs1 ++ strBits s y.i ∧ pack y.bs = y.Z ∧ y.n = y.Z.length ∧ y.k = y.bs.length)
          (μ := fun y : Tg => s.size - y.i) ⟨0, bs1, Z1, Z1.length, bs1.length⟩ (fitsD [0, 1, 2]) ⟨Nat.zero_le _, by simp [strBits], hZ1, rfl, rfl⟩ ?_
        clear HP hZ hn hk
        rintro ⟨i, bs2, Z2, n2, k2⟩ ⟨g1, g2, g3, g4, g5⟩
        dsimp only at *
        have hl3 := congrArg List.length g2
        rw [List.length_append, strBits_len] at hl3
        by_cases hi : i < s.size
        · obtain ⟨c, hc⟩ : ∃ c, byteAt s i = c := ⟨_, rfl⟩
          have hcl := c.toNat_lt
          obtain ⟨bs3, hb3⟩ : ∃ bs3, bs2 ++ bitsOf 8 (c.toNat : Int) = bs3 := ⟨_, rfl⟩
          obtain ⟨Z3, hZ3⟩ : ∃ Z3, pack bs3 = Z3 := ⟨_, rfl⟩
          have hl4 := congrArg List.length hb3
          rw [List.length_append, bitsOf_len] at hl4
          have HQ := ac_put 8 (c.toNat : Int) 0 bs2 bs3 Z2 Z3 n2 Z3.length k2 bs3.length (by omega) (by omega) g3 g4 g5 hb3 hZ3 rfl rfl (by omega)
          rw [← hc] at HQ
          repeat' first | intro h1 | refine st (h := ok_conv_u8 rfl (by decide)) ?_ | refine st ?_ | refine stMW [0, 2] HQ ?_ | refine stm ?_ | refine Ja ?_ | refine Jb ?_ | refine Jc ?_ | refine Jd ?_ | refine Je ?_ | refine Jf ?_ | refine Jg ?_ | refine Jh ?_ ?_ | refine Ji ?_ ?_ | refine Jj ?_ ?_ | refine run_nil ?_ | refine sd ?_ | refine sdl ?_ | refine sdm (n := 1) ?_ | refine sdm ?_ | refine sdb ?_ | refine Jk ?_ | refine Jl ?_ | refine Jm ?_ | refine Jn ?_ ?_ | refine Jo ?_ ?_ | refine Jp ?_ ?_ | refine rund_nil ?_ | refine Jz ?_ | refine Jw ?_ | refine J0 (id := 9) [0,1,0,7,15,31,63,127,255,31,543,2047,31,4127,12319,32767,65535,131071,262143] 19 ?_ | refine aw_block ?_ | refine Jq ?_ | refine Jr ?_ | refine Js ?_ | refine Jt ?_ | refine Ju ?_ ?_ | refine Jv ?_ ?_ | refine Jy ?_ | refine aw_exit ?_ | refine aw_ret ?_ | refine pp_ret ?_ | refine pp_normal ?_
          refine Exists.intro ⟨i + 1, bs3, Z3, Z3.length, bs3.length⟩ ⟨fitsD [0, 1, 3], ⟨hi, by dsimp only; rw [strBits, ← List.append_assoc, ← g2, hc, hb3], hZ3, rfl, rfl⟩, by dsimp only; omega⟩
        · obtain rfl : i = s.size := by omega
          repeat' first | intro h1 | refine st ?_ | refine stm ?_ | refine Ja ?_ | refine Jb ?_ | refine Jc ?_ | refine Jd ?_ | refine Je ?_ | refine Jf ?_ | refine Jg ?_ | refine Jh ?_ ?_ | refine Ji ?_ ?_ | refine Jj ?_ ?_ | refine run_nil ?_ | refine sd ?_ | refine sdl ?_ | refine sdm (n := 1) ?_ | refine sdm ?_ | refine sdb ?_ | refine Jk ?_ | refine Jl ?_ | refine Jm ?_ | refine Jn ?_ ?_ | refine Jo ?_ ?_ | refine Jp ?_ ?_ | refine rund_nil ?_ | refine Jz ?_ | refine Jw ?_ | refine J0 (id := 9) [0,1,0,7,15,31,63,127,255,31,543,2047,31,4127,12319,32767,65535,131071,262143] 19 ?_ | refine aw_block ?_ | refine Jq ?_ | refine Jr ?_ | refine Js ?_ | refine Jt ?_ | refine Ju ?_ ?_ | refine Jv ?_ ?_ | refine Jy ?_ | refine aw_exit ?_ | refine aw_ret ?_ | refine pp_ret ?_ | refine pp_normal ?_
          have hbb : bs2 = bs' := by rw [g2]; exact hb
          subst hbb
          rw [g3] at hZ'
          subst hZ' g4 hn' g5 hk'
          exact pm_normal _ (renumD [0, 1, 2]) rfl
        exfalso
        omega
    · rw [if_pos (by simpa using hr)] at hst
      rw [decide_eq_false hr] at HLm
      obtain ⟨rfl, rfl⟩ := Prod.mk.inj hst
      rw [hZ] at hZ'; subst hZ' hn hn' hk hk'
      refine acalls_of_aw Tryz.func123 rfl rfl ?_
      repeat' first | intro h1 | refine st ?_ | refine st_call (HLm) ?_ | refine stm ?_ | refine Ja ?_ | refine Jb ?_ | refine Jc ?_ | refine Jd ?_ | refine Je ?_ | refine Jf ?_ | refine Jg ?_ | refine Jh ?_ ?_ | refine Ji ?_ ?_ | refine Jj ?_ ?_ | refine run_nil ?_ | refine sd ?_ | refine sdl ?_ | refine sd_call (HLm) ?_ | refine sdm (n := 1) ?_ | refine sdm ?_ | refine sdb ?_ | refine Jk ?_ | refine Jl ?_ | refine Jm ?_ | refine Jn ?_ ?_ | refine Jo ?_ ?_ | refine Jp ?_ ?_ | refine rund_nil ?_ | refine Jz ?_ | refine Jw ?_ | refine J0 (id := 9) [0,1,0,7,15,31,63,127,255,31,543,2047,31,4127,12319,32767,65535,131071,262143] 19 ?_ | refine aw_block ?_ | refine Jq ?_ | refine Jr ?_ | refine Js ?_ | refine Jt ?_ | refine Ju ?_ ?_ | refine Jv ?_ ?_ | refine Jy ?_ | refine aw_exit ?_ | refine aw_ret ?_ | refine pp_ret ?_ | refine pp_normal ?_
      exact pm_normal _ (renumD [0, 1, 1]) rfl
  · rw [if_pos he] at hst
    obtain ⟨rfl, rfl⟩ := Prod.mk.inj hst
    rw [hZ] at hZ'; subst hZ' hn hn' hk hk'
    refine acalls_of_aw Tryz.func123 rfl rfl ?_
    repeat' first | intro h1 | refine st ?_ | refine stm ?_ | refine Ja ?_ | refine Jb ?_ | refine Jc ?_ | refine Jd ?_ | refine Je ?_ | refine Jf ?_ | refine Jg ?_ | refine Jh ?_ ?_ | refine Ji ?_ ?_ | refine Jj ?_ ?_ | refine run_nil ?_ | refine sd ?_ | refine sdl ?_ | refine sdm (n := 1) ?_ | refine sdm ?_ | refine sdb ?_ | refine Jk ?_ | refine Jl ?_ | refine Jm ?_ | refine Jn ?_ ?_ | refine Jo ?_ ?_ | refine Jp ?_ ?_ | refine rund_nil ?_ | refine Jz ?_ | refine Jw ?_ | refine J0 (id := 9) [0,1,0,7,15,31,63,127,255,31,543,2047,31,4127,12319,32767,65535,131071,262143] 19 ?_ | refine aw_block ?_ | refine Jq ?_ | refine Jr ?_ | refine Js ?_ | refine Jt ?_ | refine Ju ?_ ?_ | refine Jv ?_ ?_ | refine Jy ?_ | refine aw_exit ?_ | refine aw_ret ?_ | refine pp_ret ?_ | refine pp_normal ?_
    exact pm_normal _ (renumD [0, 1, 1]) rfl
theorem ac_uns0 (w x : Int) (bs bs' : List Int) (h : 1 ≤ w ∧ w ≤ 63) (hx : 0 ≤ x ∧ x < 2 ^ w.toNat) (hl : bs.length + w ≤ 524288) (hb : bs ++ bitsOf w.toNat x = bs') : ACalls Tryz.prog 124 [.pointer (some ⟨0, 0, none⟩), .int .i64 w, .int .i64 x] [some ⟨[.slice (some ⟨1, 0, none⟩) (pack bs).length (pack bs).length, .int .i64 (bs.length : Int), .int .i64 0], true, 1⟩, some ⟨List.map (Value.int .u8) (pack bs), true, 1⟩] (.tuple #[]) [some ⟨[.slice (some ⟨2, 0, none⟩) (pack bs').length (pack bs').length, .int .i64 (bs'.length : Int), .int .i64 0], true, 1⟩, none, some ⟨List.map (Value.int .u8) (pack bs'), true, 1⟩] :=
  ac_unsigned w x 0 0 bs bs' _ _ _ _ _ _ rfl rfl rfl (unsW_ok h hx hl hb) rfl rfl rfl (by omega) (by omega) (bd63 h hx)
theorem ac_flag0 (r : Bool) (bs bs' : List Int) (hl : bs.length + 1 ≤ 524288) (hb : bs ++ bitsOf 1 (if r = true then 1 else 0) = bs') : ACalls Tryz.prog 122 [.pointer (some ⟨0, 0, none⟩), .bool r] [some ⟨[.slice (some ⟨1, 0, none⟩) (pack bs).length (pack bs).length, .int .i64 (bs.length : Int), .int .i64 0], true, 1⟩, some ⟨List.map (Value.int .u8) (pack bs), true, 1⟩] (.tuple #[]) [some ⟨[.slice (some ⟨2, 0, none⟩) (pack bs').length (pack bs').length, .int .i64 (bs'.length : Int), .int .i64 0], true, 1⟩, none, some ⟨List.map (Value.int .u8) (pack bs'), true, 1⟩] :=
  ac_flag r 0 0 bs bs' _ _ _ _ _ _ rfl rfl rfl (flgW_ok hl hb) rfl rfl rfl (by omega)
theorem ac_text0 (m : Int) (s : ByteArray) (bs bs' : List Int) (hm : 1 ≤ m ∧ m ≤ 4095) (hs : (s.size : Int) ≤ m) (hl : bs.length + wdth m + 8 * s.size ≤ 524288) (hb : bs ++ bitsOf (wdth m).toNat s.size ++ strBits s s.size = bs') : ACalls Tryz.prog 123 [.pointer (some ⟨0, 0, none⟩), .int .i64 m, .string s] [some ⟨[.slice (some ⟨1, 0, none⟩) (pack bs).length (pack bs).length, .int .i64 (bs.length : Int), .int .i64 0], true, 1⟩, some ⟨List.map (Value.int .u8) (pack bs), true, 1⟩] (.tuple #[]) [some ⟨[.slice (some ⟨2, 0, none⟩) (pack bs').length (pack bs').length, .int .i64 (bs'.length : Int), .int .i64 0], true, 1⟩, none, some ⟨List.map (Value.int .u8) (pack bs'), true, 1⟩] :=
  ac_text m s 0 0 bs bs' _ _ _ _ _ _ rfl rfl rfl (txtW_ok hm hs hl hb) rfl rfl rfl (by have := wdth_bd m (by omega); omega) (by omega) (by omega)
theorem ac_bytes0 (bs : List Int) : ACalls Tryz.prog 125 [.pointer (some ⟨0, 0, none⟩)] [some ⟨[.slice (some ⟨1, 0, none⟩) (pack bs).length (pack bs).length, .int .i64 (bs.length : Int), .int .i64 0], false, 1⟩, some ⟨List.map (Value.int .u8) (pack bs), false, 1⟩] (.tuple #[.string (pkB bs), .int .i64 0]) [none, none] := ac_bytes _ _ bs _ rfl rfl
theorem ac_newW0 (bs : List Int) (h : [] = bs) : ACalls Tryz.prog 121 [] [] (.pointer (some ⟨0, 0, none⟩)) [some ⟨[.slice (some ⟨1, 0, none⟩) (pack bs).length (pack bs).length, .int .i64 (bs.length : Int), .int .i64 0], true, 1⟩, some ⟨List.map (Value.int .u8) (pack bs), true, 1⟩] := by subst h; exact ac_newW
end Go.Proofs.YtdbcbclapipgdaaGreatDoor
