/- TransferOnward: the law. -/
import Derived.Test.YtekkdoaakilafaaVL
import Derived.Test.YtekkdoaakilafaaLE
set_option linter.unusedVariables false
set_option linter.unusedSimpArgs false
namespace Go.Proofs.Ytekkdoaakilafaa
open Go Av
set_option maxRecDepth 20000
set_option maxHeartbeats 16000000 in
theorem law_onward (s : Sto) (hbits : s.bits < 18446744073709551616) (U : List Upd) : ACalls Try.prog 7 [.agg #[.int .i64 s.ver, .string s.id, .bool s.kn, .int .i64 s.mv, .int .i64 s.ms, .int .i64 s.mg, .int .i64 s.mq, .slice (some ⟨0, 0, none⟩) s.L.length s.L.length, .string s.data, .int .u64 s.bits, .slice (some ⟨1, 0, none⟩) s.P.length s.P.length], .slice (some ⟨2, 0, none⟩) U.length U.length] [some ⟨List.map Value.string s.L, false, 1⟩, some ⟨List.map Value.string s.P, false, 1⟩, some ⟨U.flatMap updC, false, 7⟩] (.bool true) [none, none, none] := by
  obtain ⟨w, hw⟩ : ∃ w, fewS s = w := ⟨_, rfl⟩
  have HF := ac_FewS s s.L.length s.P.length rfl rfl w hw
  obtain ⟨m, hm⟩ : ∃ m, U.length = m := ⟨_, rfl⟩
  rw [hm]
  obtain ⟨w2, hw2⟩ : ∃ w, shB U 30 = w := ⟨_, rfl⟩
  have HS := ac_Short U m hm 30 (by decide) w2 hw2
  cases w
  · clear hw hw2
    obtain ⟨ver, id, kn, mv, ms, mg, mq, L, data, bits, P⟩ := s
    dsimp only at *
    refine acalls_law Try.func7 rfl rfl rfl ?_
    repeat' first | intro h1 | intro h1 | refine st (h := ok_not_dec2 rfl) ?_ | refine sd (h := ok_not_dec2 rfl) ?_ | refine st_call (ac_awake) ?_ | refine st ?_ | refine stRW [0, 1] HF ?_ | refine sdRW [0, 1] HF ?_ | refine stMW [0, 1] HP ?_ | refine stRW [4, 5] HC ?_ | refine stRW [2] HS ?_ | refine stm ?_ | refine Ja ?_ | refine Jb ?_ | refine Jc ?_ | refine Jd ?_ | refine Je ?_ | refine Jf ?_ | refine Jg ?_ | refine Jh ?_ ?_ | refine Ji ?_ ?_ | refine Jj ?_ ?_ | refine run_nil ?_ | refine sd ?_ | refine sdl ?_ | refine sdm (n := 1) ?_ | refine sdm ?_ | refine sdb ?_ | refine Jk ?_ | refine Jl ?_ | refine Jm ?_ | refine Jn ?_ ?_ | refine Jo ?_ ?_ | refine Jp ?_ ?_ | refine rund_nil ?_ | refine Jz ?_ | refine Jw ?_ | refine Jx (id := 6) [0,1,0,7,15,31,31,31,0,319,895,2047] 9 ?_ | refine Jx (id := 12) [0,1,3,7,3,19,51,127,3,259,1023,2047] 12 ?_ | refine aw_block ?_ | refine Jq ?_ | refine Jr ?_ | refine Js ?_ | refine Jt ?_ | refine Ju ?_ ?_ | refine Jv ?_ ?_ | refine Jy ?_ | refine aw_exit ?_ | refine aw_ret ?_ | refine pp_ret ?_ | refine pp_normal ?_
    all_goals first
      | rfl
      | (exfalso; omega)
      | (simp [retOf]; done)
      | (exfalso; simp_all; done)
  have hfew := fewS_spec hw
  clear hw
  cases w2
  · clear hw2
    obtain ⟨ver, id, kn, mv, ms, mg, mq, L, data, bits, P⟩ := s
    dsimp only at *
    refine acalls_law Try.func7 rfl rfl rfl ?_
    repeat' first | intro h1 | intro h1 | refine st (h := ok_not_dec2 rfl) ?_ | refine sd (h := ok_not_dec2 rfl) ?_ | refine st_call (ac_awake) ?_ | refine st ?_ | refine stRW [0, 1] HF ?_ | refine sdRW [0, 1] HF ?_ | refine stMW [0, 1] HP ?_ | refine stRW [4, 5] HC ?_ | refine stRW [2] HS ?_ | refine stm ?_ | refine Ja ?_ | refine Jb ?_ | refine Jc ?_ | refine Jd ?_ | refine Je ?_ | refine Jf ?_ | refine Jg ?_ | refine Jh ?_ ?_ | refine Ji ?_ ?_ | refine Jj ?_ ?_ | refine run_nil ?_ | refine sd ?_ | refine sdl ?_ | refine sdm (n := 1) ?_ | refine sdm ?_ | refine sdb ?_ | refine Jk ?_ | refine Jl ?_ | refine Jm ?_ | refine Jn ?_ ?_ | refine Jo ?_ ?_ | refine Jp ?_ ?_ | refine rund_nil ?_ | refine Jz ?_ | refine Jw ?_ | refine Jx (id := 6) [0,1,0,7,15,31,31,31,0,319,895,2047] 9 ?_ | refine Jx (id := 12) [0,1,3,7,3,19,51,127,3,259,1023,2047] 12 ?_ | refine aw_block ?_ | refine Jq ?_ | refine Jr ?_ | refine Js ?_ | refine Jt ?_ | refine Ju ?_ ?_ | refine Jv ?_ ?_ | refine Jy ?_ | refine aw_exit ?_ | refine aw_ret ?_ | refine pp_ret ?_ | refine pp_normal ?_
    all_goals first
      | rfl
      | (exfalso; omega)
      | (simp [retOf]; done)
      | (exfalso; simp_all; done)
  obtain ⟨hsh1, hsh2⟩ := shB_spec hw2
  rw [hm] at hsh1
  clear hw2
  have HP := ac_cp s s.L.length s.P.length rfl rfl ⟨by omega, by omega⟩
  obtain ⟨x, hx⟩ : ∃ x, chS s = x := ⟨_, rfl⟩
  have HC := ac_Check s s.L.length s.P.length rfl rfl ⟨by omega, by omega⟩ hbits (by omega) x hx
  clear hfew
  cases x
  · clear hx hsh2
    obtain ⟨ver, id, kn, mv, ms, mg, mq, L, data, bits, P⟩ := s
    dsimp only at *
    refine acalls_law Try.func7 rfl rfl rfl ?_
    repeat' first | intro h1 | intro h1 | refine st (h := ok_not_dec2 rfl) ?_ | refine sd (h := ok_not_dec2 rfl) ?_ | refine st_call (ac_awake) ?_ | refine st ?_ | refine stRW [0, 1] HF ?_ | refine sdRW [0, 1] HF ?_ | refine stMW [0, 1] HP ?_ | refine stRW [4, 5] HC ?_ | refine stRW [2] HS ?_ | refine stm ?_ | refine Ja ?_ | refine Jb ?_ | refine Jc ?_ | refine Jd ?_ | refine Je ?_ | refine Jf ?_ | refine Jg ?_ | refine Jh ?_ ?_ | refine Ji ?_ ?_ | refine Jj ?_ ?_ | refine run_nil ?_ | refine sd ?_ | refine sdl ?_ | refine sdm (n := 1) ?_ | refine sdm ?_ | refine sdb ?_ | refine Jk ?_ | refine Jl ?_ | refine Jm ?_ | refine Jn ?_ ?_ | refine Jo ?_ ?_ | refine Jp ?_ ?_ | refine rund_nil ?_ | refine Jz ?_ | refine Jw ?_ | refine Jx (id := 6) [0,1,0,7,15,31,31,31,0,319,895,2047] 9 ?_ | refine Jx (id := 12) [0,1,3,7,3,19,51,127,3,259,1023,2047] 12 ?_ | refine aw_block ?_ | refine Jq ?_ | refine Jr ?_ | refine Js ?_ | refine Jt ?_ | refine Ju ?_ ?_ | refine Jv ?_ ?_ | refine Jy ?_ | refine aw_exit ?_ | refine aw_ret ?_ | refine pp_ret ?_ | refine pp_normal ?_
    all_goals first
      | rfl
      | (exfalso; omega)
      | (simp [retOf]; done)
      | (exfalso; simp_all; done)
  · obtain ⟨ver, id, kn, mv, ms, mg, mq, L, data, bits, P⟩ := s
    dsimp only at HF HP HC hbits ⊢
    refine acalls_law Try.func7 rfl rfl rfl ?_
    repeat' first | intro h1 | intro h1 | refine st (h := ok_not_dec2 rfl) ?_ | refine sd (h := ok_not_dec2 rfl) ?_ | refine st_call (ac_awake) ?_ | refine st ?_ | refine stRW [0, 1] HF ?_ | refine sdRW [0, 1] HF ?_ | refine stMW [0, 1] HP ?_ | refine stRW [4, 5] HC ?_ | refine stRW [2] HS ?_ | refine stm ?_ | refine Ja ?_ | refine Jb ?_ | refine Jc ?_ | refine Jd ?_ | refine Je ?_ | refine Jf ?_ | refine Jg ?_ | refine Jh ?_ ?_ | refine Ji ?_ ?_ | refine Jj ?_ ?_ | refine run_nil ?_ | refine sd ?_ | refine sdl ?_ | refine sdm (n := 1) ?_ | refine sdm ?_ | refine sdb ?_ | refine Jk ?_ | refine Jl ?_ | refine Jm ?_ | refine Jn ?_ ?_ | refine Jo ?_ ?_ | refine Jp ?_ ?_ | refine rund_nil ?_ | refine Jz ?_ | refine Jw ?_ | refine Jx (id := 6) [0,1,0,7,15,31,31,31,0,319,895,2047] 9 ?_ | refine Jx (id := 12) [0,1,3,7,3,19,51,127,3,259,1023,2047] 12 ?_ | refine aw_block ?_ | refine Jq ?_ | refine Jr ?_ | refine Js ?_ | refine Jt ?_ | refine Ju ?_ ?_ | refine Jv ?_ ?_ | refine Jy ?_ | refine aw_exit ?_ | refine aw_ret ?_ | refine pp_ret ?_ | refine pp_normal ?_
    all_goals try (exfalso; omega)
    refine aw_loopg
      (S := fun y : Gi => [(2, .pointer (some ⟨3, 0, none⟩)), (31, .slice (some ⟨2, 0, none⟩) m m), (32, .int .i64 m), (33, .int .i64 y.i)])
      (B := fun y : Gi => [none, none, some ⟨U.flatMap updC, false, 7⟩, some ⟨[.int .i64 y.s.ver, .string y.s.id, .bool y.s.kn, .int .i64 y.s.mv, .int .i64 y.s.ms, .int .i64 y.s.mg, .int .i64 y.s.mq, .slice (some ⟨4, 0, none⟩) y.s.L.length y.s.L.length, .string y.s.data, .int .u64 y.s.bits, .slice (some ⟨5, 0, none⟩) y.s.P.length y.s.P.length], true, 1⟩, some ⟨List.map Value.string y.s.L, y.r, 1⟩, some ⟨List.map Value.string y.s.P, y.r, 1⟩])
      (R := fun y : Gi => y.i ≤ m ∧ chS y.s = true)
      (μ := fun y : Gi => m - y.i) ⟨0, ⟨ver, id, kn, mv, ms, mg, mq, L, data, bits, P⟩, false⟩ (fitsD [0, 1, 2, 3, 0, 1]) ⟨Nat.zero_le _, hx⟩ ?_
    clear HF HS HP HC hx hbits
    rintro ⟨i, s, r⟩ ⟨g1, hc⟩
    dsimp only at g1 hc ⊢
    by_cases hi : i < m
    · obtain ⟨⟨uk, uv, ui, up, ut, ub, ud⟩, hq⟩ : ∃ q, U[i]? = some q := ⟨_, List.getElem?_eq_getElem (by omega)⟩
      obtain ⟨b1, b2, b3, b4⟩ := chS_bd hc
      by_cases hu : valU uk uv ui up ut ub ud = true
      · by_cases hn : uk = 1 ∧ s.ver < uv
        · exact on_new s _ r _ U m i uk uv ui up ut ub ud hi (by omega) hm hq ⟨by omega, by omega⟩ b4 (by omega) hc hu rfl rfl hn
        · by_cases hk : uk = 1
          · exact on_ann s _ r _ U m i uk uv ui up ut ub ud hi (by omega) hm hq ⟨by omega, by omega⟩ b4 (by omega) hc hu rfl rfl hn hk
          · exact on_oth s _ r _ U m i uk uv ui up ut ub ud hi (by omega) hm hq ⟨by omega, by omega⟩ b4 (by omega) hc hu rfl rfl hn hk
      · exact on_bad s s r r U m i uk uv ui up ut ub ud hi (by omega) hm hq ⟨by omega, by omega⟩ b4 (by omega) hc (by simpa using hu)
    · obtain rfl : i = m := by omega
      repeat' first | intro h1 | intro h1 | refine st (h := ok_not_dec2 rfl) ?_ | refine sd (h := ok_not_dec2 rfl) ?_ | refine st ?_ | refine stm ?_ | refine Ja ?_ | refine Jb ?_ | refine Jc ?_ | refine Jd ?_ | refine Je ?_ | refine Jf ?_ | refine Jg ?_ | refine Jh ?_ ?_ | refine Ji ?_ ?_ | refine Jj ?_ ?_ | refine run_nil ?_ | refine sd ?_ | refine sdl ?_ | refine sdm (n := 1) ?_ | refine sdm ?_ | refine sdb ?_ | refine Jk ?_ | refine Jl ?_ | refine Jm ?_ | refine Jn ?_ ?_ | refine Jo ?_ ?_ | refine Jp ?_ ?_ | refine rund_nil ?_ | refine Jz ?_ | refine Jw ?_ | refine Jx (id := 6) [0,1,0,7,15,31,31,31,0,319,895,2047] 9 ?_ | refine Jx (id := 12) [0,1,3,7,3,19,51,127,3,259,1023,2047] 12 ?_ | refine aw_block ?_ | refine Jq ?_ | refine Jr ?_ | refine Js ?_ | refine Jt ?_ | refine Ju ?_ ?_ | refine Jv ?_ ?_ | refine Jy ?_ | refine aw_exit ?_ | refine aw_ret ?_ | refine pp_ret ?_ | refine pp_normal ?_
      all_goals first
        | rfl
        | (exfalso; omega)
        | (simp [retOf]; done)
        | (exfalso; simp_all; done)
end Go.Proofs.Ytekkdoaakilafaa
