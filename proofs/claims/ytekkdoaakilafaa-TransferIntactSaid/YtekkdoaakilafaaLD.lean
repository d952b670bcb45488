/- TransferIntact: the law. -/
import Derived.Test.YtekkdoaakilafaaVL
import Derived.Test.YtekkdoaakilafaaY2
import Derived.Test.YtekkdoaakilafaaW4
set_option linter.unusedVariables false
set_option linter.unusedSimpArgs false
namespace Go.Proofs.Ytekkdoaakilafaa
open Go Av
set_option maxRecDepth 20000
set_option maxHeartbeats 16000000 in
theorem law_intact (s : Sto) (hbits : s.bits < 18446744073709551616) (U : List Upd) : ACalls Try.prog 6 [.agg #[.int .i64 s.ver, .string s.id, .bool s.kn, .int .i64 s.mv, .int .i64 s.ms, .int .i64 s.mg, .int .i64 s.mq, .slice (some ⟨0, 0, none⟩) s.L.length s.L.length, .string s.data, .int .u64 s.bits, .slice (some ⟨1, 0, none⟩) s.P.length s.P.length], .slice (some ⟨2, 0, none⟩) U.length U.length] [some ⟨List.map Value.string s.L, false, 1⟩, some ⟨List.map Value.string s.P, false, 1⟩, some ⟨U.flatMap updC, false, 7⟩] (.bool true) [none, none, none] := by
  obtain ⟨w, hw⟩ : ∃ w, fewS s = w := ⟨_, rfl⟩
  have HF := ac_FewS s s.L.length s.P.length rfl rfl w hw
  obtain ⟨m, hm⟩ : ∃ m, U.length = m := ⟨_, rfl⟩
  rw [hm]
  obtain ⟨w2, hw2⟩ : ∃ w, shB U 30 = w := ⟨_, rfl⟩
  have HS := ac_Short U m hm 30 (by decide) w2 hw2
  cases w
  · clear hw hw2
    obtain ⟨ver, id, kn, mv, ms, mg, mq, L, data, bits, P⟩ := s
    dsimp only at *
    refine acalls_law Try.func6 rfl rfl rfl ?_
    repeat' first | intro h1 | refine st (h := ok_not_dec2 rfl) ?_ | refine sd (h := ok_not_dec2 rfl) ?_ | refine st_call (ac_awake) ?_ | refine st ?_ | refine stRW [0, 1] HF ?_ | refine sdRW [0, 1] HF ?_ | refine stMW [0, 1] HP ?_ | refine stRW [4, 5] HC ?_ | refine stRW [2] HS ?_ | refine stm ?_ | refine Ja ?_ | refine Jb ?_ | refine Jc ?_ | refine Jd ?_ | refine Je ?_ | refine Jf ?_ | refine Jg ?_ | refine Jh ?_ ?_ | refine Ji ?_ ?_ | refine Jj ?_ ?_ | refine run_nil ?_ | refine sd ?_ | refine sdl ?_ | refine sdm (n := 1) ?_ | refine sdm ?_ | refine sdb ?_ | refine Jk ?_ | refine Jl ?_ | refine Jm ?_ | refine Jn ?_ ?_ | refine Jo ?_ ?_ | refine Jp ?_ ?_ | refine rund_nil ?_ | refine Jz ?_ | refine Jw ?_ | refine Jx (id := 6) [0,1,0,7,15,31,31,31,0,319,895,2047] 9 ?_ | refine aw_block ?_ | refine Jq ?_ | refine Jr ?_ | refine Js ?_ | refine Jt ?_ | refine Ju ?_ ?_ | refine Jv ?_ ?_ | refine Jy ?_ | refine aw_exit ?_ | refine aw_ret ?_ | refine pp_ret ?_ | refine pp_normal ?_
    all_goals first
      | rfl
      | (exfalso; omega)
      | (simp [retOf]; done)
      | (exfalso; simp_all; done)
  have hfew := fewS_spec hw
  clear hw
  cases w2
  · clear hw2
    obtain ⟨ver, id, kn, mv, ms, mg, mq, L, data, bits, P⟩ := s
    dsimp only at *
    refine acalls_law Try.func6 rfl rfl rfl ?_
    repeat' first | intro h1 | refine st (h := ok_not_dec2 rfl) ?_ | refine sd (h := ok_not_dec2 rfl) ?_ | refine st_call (ac_awake) ?_ | refine st ?_ | refine stRW [0, 1] HF ?_ | refine sdRW [0, 1] HF ?_ | refine stMW [0, 1] HP ?_ | refine stRW [4, 5] HC ?_ | refine stRW [2] HS ?_ | refine stm ?_ | refine Ja ?_ | refine Jb ?_ | refine Jc ?_ | refine Jd ?_ | refine Je ?_ | refine Jf ?_ | refine Jg ?_ | refine Jh ?_ ?_ | refine Ji ?_ ?_ | refine Jj ?_ ?_ | refine run_nil ?_ | refine sd ?_ | refine sdl ?_ | refine sdm (n := 1) ?_ | refine sdm ?_ | refine sdb ?_ | refine Jk ?_ | refine Jl ?_ | refine Jm ?_ | refine Jn ?_ ?_ | refine Jo ?_ ?_ | refine Jp ?_ ?_ | refine rund_nil ?_ | refine Jz ?_ | refine Jw ?_ | refine Jx (id := 6) [0,1,0,7,15,31,31,31,0,319,895,2047] 9 ?_ | refine aw_block ?_ | refine Jq ?_ | refine Jr ?_ | refine Js ?_ | refine Jt ?_ | refine Ju ?_ ?_ | refine Jv ?_ ?_ | refine Jy ?_ | refine aw_exit ?_ | refine aw_ret ?_ | refine pp_ret ?_ | refine pp_normal ?_
    all_goals first
      | rfl
      | (exfalso; omega)
      | (simp [retOf]; done)
      | (exfalso; simp_all; done)
  obtain ⟨hsh1, hsh2⟩ := shB_spec hw2
  rw [hm] at hsh1
  clear hw2
  have HP := ac_cp s s.L.length s.P.length rfl rfl ⟨by omega, by omega⟩
  obtain ⟨x, hx⟩ : ∃ x, chS s = x := ⟨_, rfl⟩
  have HC := ac_Check s s.L.length s.P.length rfl rfl ⟨by omega, by omega⟩ hbits (by omega) x hx
  clear hfew
  cases x
  · clear hx hsh2
    obtain ⟨ver, id, kn, mv, ms, mg, mq, L, data, bits, P⟩ := s
    dsimp only at *
    refine acalls_law Try.func6 rfl rfl rfl ?_
    repeat' first | intro h1 | refine st (h := ok_not_dec2 rfl) ?_ | refine sd (h := ok_not_dec2 rfl) ?_ | refine st_call (ac_awake) ?_ | refine st ?_ | refine stRW [0, 1] HF ?_ | refine sdRW [0, 1] HF ?_ | refine stMW [0, 1] HP ?_ | refine stRW [4, 5] HC ?_ | refine stRW [2] HS ?_ | refine stm ?_ | refine Ja ?_ | refine Jb ?_ | refine Jc ?_ | refine Jd ?_ | refine Je ?_ | refine Jf ?_ | refine Jg ?_ | refine Jh ?_ ?_ | refine Ji ?_ ?_ | refine Jj ?_ ?_ | refine run_nil ?_ | refine sd ?_ | refine sdl ?_ | refine sdm (n := 1) ?_ | refine sdm ?_ | refine sdb ?_ | refine Jk ?_ | refine Jl ?_ | refine Jm ?_ | refine Jn ?_ ?_ | refine Jo ?_ ?_ | refine Jp ?_ ?_ | refine rund_nil ?_ | refine Jz ?_ | refine Jw ?_ | refine Jx (id := 6) [0,1,0,7,15,31,31,31,0,319,895,2047] 9 ?_ | refine aw_block ?_ | refine Jq ?_ | refine Jr ?_ | refine Js ?_ | refine Jt ?_ | refine Ju ?_ ?_ | refine Jv ?_ ?_ | refine Jy ?_ | refine aw_exit ?_ | refine aw_ret ?_ | refine pp_ret ?_ | refine pp_normal ?_
    all_goals first
      | rfl
      | (exfalso; omega)
      | (simp [retOf]; done)
      | (exfalso; simp_all; done)
  · obtain ⟨ver, id, kn, mv, ms, mg, mq, L, data, bits, P⟩ := s
    dsimp only at HF HP HC hbits ⊢
    refine acalls_law Try.func6 rfl rfl rfl ?_
    repeat' first | intro h1 | refine st (h := ok_not_dec2 rfl) ?_ | refine sd (h := ok_not_dec2 rfl) ?_ | refine st_call (ac_awake) ?_ | refine st ?_ | refine stRW [0, 1] HF ?_ | refine sdRW [0, 1] HF ?_ | refine stMW [0, 1] HP ?_ | refine stRW [4, 5] HC ?_ | refine stRW [2] HS ?_ | refine stm ?_ | refine Ja ?_ | refine Jb ?_ | refine Jc ?_ | refine Jd ?_ | refine Je ?_ | refine Jf ?_ | refine Jg ?_ | refine Jh ?_ ?_ | refine Ji ?_ ?_ | refine Jj ?_ ?_ | refine run_nil ?_ | refine sd ?_ | refine sdl ?_ | refine sdm (n := 1) ?_ | refine sdm ?_ | refine sdb ?_ | refine Jk ?_ | refine Jl ?_ | refine Jm ?_ | refine Jn ?_ ?_ | refine Jo ?_ ?_ | refine Jp ?_ ?_ | refine rund_nil ?_ | refine Jz ?_ | refine Jw ?_ | refine Jx (id := 6) [0,1,0,7,15,31,31,31,0,319,895,2047] 9 ?_ | refine aw_block ?_ | refine Jq ?_ | refine Jr ?_ | refine Js ?_ | refine Jt ?_ | refine Ju ?_ ?_ | refine Jv ?_ ?_ | refine Jy ?_ | refine aw_exit ?_ | refine aw_ret ?_ | refine pp_ret ?_ | refine pp_normal ?_
    all_goals try (exfalso; omega)
    refine aw_loopg
      (S := fun y : Gi => [(2, .pointer (some ⟨3, 0, none⟩)), (31, .slice (some ⟨2, 0, none⟩) m m), (32, .int .i64 m), (33, .int .i64 y.i)])
      (B := fun y : Gi => [none, none, some ⟨U.flatMap updC, false, 7⟩, some ⟨[.int .i64 y.s.ver, .string y.s.id, .bool y.s.kn, .int .i64 y.s.mv, .int .i64 y.s.ms, .int .i64 y.s.mg, .int .i64 y.s.mq, .slice (some ⟨4, 0, none⟩) y.s.L.length y.s.L.length, .string y.s.data, .int .u64 y.s.bits, .slice (some ⟨5, 0, none⟩) y.s.P.length y.s.P.length], true, 1⟩, some ⟨List.map Value.string y.s.L, y.r, 1⟩, some ⟨List.map Value.string y.s.P, y.r, 1⟩])
      (R := fun y : Gi => y.i ≤ m ∧ chS y.s = true)
      (μ := fun y : Gi => m - y.i) ⟨0, ⟨ver, id, kn, mv, ms, mg, mq, L, data, bits, P⟩, false⟩ (fitsD [0, 1, 2, 3, 0, 1]) ⟨Nat.zero_le _, hx⟩ ?_
    clear HF HS HP HC hx hbits
    rintro ⟨i, s, r⟩ ⟨g1, hc⟩
    dsimp only at g1 hc ⊢
    by_cases hi : i < m
    · obtain ⟨⟨uk, uv, ui, up, ut, ub, ud⟩, hq⟩ : ∃ q, U[i]? = some q := ⟨_, List.getElem?_eq_getElem (by omega)⟩
      obtain ⟨b1, b2, b3, b4⟩ := chS_bd hc
      have HP := ac_cp s s.L.length s.P.length rfl rfl ⟨by omega, by omega⟩
      by_cases hu : valU uk uv ui up ut ub ud = true
      · obtain ⟨s', hs'⟩ : ∃ s', heS s ⟨uk, uv, ui, up, ut, ub, ud⟩ = s' := ⟨_, rfl⟩
        obtain ⟨e, he⟩ : ∃ e, heE s ⟨uk, uv, ui, up, ut, ub, ud⟩ = e := ⟨_, rfl⟩
        have HE := ac_Hear s s.L.length s.P.length rfl rfl ⟨by omega, by omega⟩ b4 (by omega) hc uk uv ui up ut ub ud hu s' hs' e he s'.L.length s'.P.length rfl rfl
        have hc' : chS s' = true := by rw [← hs']; exact ch_hear hc hu
        obtain ⟨d1, d2, d3, d4⟩ := chS_bd hc'
        have HQ := ac_cp s' s'.L.length s'.P.length rfl rfl ⟨by omega, by omega⟩
        have HC := ac_Check s' s'.L.length s'.P.length rfl rfl ⟨by omega, by omega⟩ d4 (by omega) true hc'
        obtain ⟨z, hz⟩ : ∃ z, cpB s' = z := ⟨_, rfl⟩
        have HM := ac_Complete s' s'.L.length s'.P.length rfl rfl ⟨by omega, by omega⟩ d4 (by omega) true z hc' hz
        cases z
        · clear hc hu hs' he hz hsh2
          obtain ⟨ver, id, kn, mv, ms, mg, mq, L, data, bits, P⟩ := s
          obtain ⟨ver', id', kn', mv', ms', mg', mq', L', data', bits', P'⟩ := s'
          dsimp only at *
          repeat' first | intro h1 | refine st (h := ok_not_dec2 rfl) ?_ | refine sd (h := ok_not_dec2 rfl) ?_ | refine st (h := ok_load_rowsE (f := updC) (cs := [.int .i64 uk, .int .i64 uv, .string ui, .int .i64 up, .int .i64 ut, .int .u64 ub, .string ud]) i (fun _ => rfl) hq rfl rfl rfl rfl (by omega)) ?_ | refine st (h := ok_str_eqlT rfl rfl) ?_ | refine st (h := ok_str_neqF rfl rfl) ?_ | refine sd (h := ok_str_eqlT rfl rfl) ?_ | refine sd (h := ok_str_neqF rfl rfl) ?_ | refine st ?_ | refine sdNR (r' := .agg #[.int .i64 ver, .string id, .bool kn, .int .i64 mv, .int .i64 ms, .int .i64 mg, .int .i64 mq, .slice (some ⟨7, 0, none⟩) L.length L.length, .string data, .int .u64 bits, .slice (some ⟨8, 0, none⟩) P.length P.length]) (N := [some ⟨List.map Value.string L, true, 1⟩, some ⟨List.map Value.string P, true, 1⟩]) [4, 5] 2 HP ?_ | refine sdNR (r' := .tuple #[.agg #[.int .i64 ver', .string id', .bool kn', .int .i64 mv', .int .i64 ms', .int .i64 mg', .int .i64 mq', .slice (some ⟨9, 0, none⟩) L'.length L'.length, .string data', .int .u64 bits', .slice (some ⟨10, 0, none⟩) P'.length P'.length], .bool e, .int .i64 0]) (N := [some ⟨List.map Value.string L', true, 1⟩, some ⟨List.map Value.string P', true, 1⟩]) [7, 8] 2 HE ?_ | refine stMW [9, 10] HQ ?_ | refine stRW [12, 13] HC ?_ | refine stRW [14, 15] HM ?_ | refine stRW [9] HI ?_ | refine stRW [9] HT ?_ | refine sdRW [9] HI ?_ | refine sdRW [9] HT ?_ | refine stm ?_ | refine Ja ?_ | refine Jb ?_ | refine Jc ?_ | refine Jd ?_ | refine Je ?_ | refine Jf ?_ | refine Jg ?_ | refine Jh ?_ ?_ | refine Ji ?_ ?_ | refine Jj ?_ ?_ | refine run_nil ?_ | refine sd ?_ | refine sdl ?_ | refine sdm (n := 1) ?_ | refine sdm ?_ | refine sdb ?_ | refine Jk ?_ | refine Jl ?_ | refine Jm ?_ | refine Jn ?_ ?_ | refine Jo ?_ ?_ | refine Jp ?_ ?_ | refine rund_nil ?_ | refine Jz ?_ | refine Jw ?_ | refine Jx (id := 6) [0,1,0,7,15,31,31,31,0,319,895,2047] 9 ?_ | refine aw_block ?_ | refine Jq ?_ | refine Jr ?_ | refine Js ?_ | refine Jt ?_ | refine Ju ?_ ?_ | refine Jv ?_ ?_ | refine Jy ?_ | refine aw_exit ?_ | refine aw_ret ?_ | refine pp_ret ?_ | refine pp_normal ?_
          all_goals first | exact Exists.intro ⟨i + 1, ⟨ver', id', kn', mv', ms', mg', mq', L', data', bits', P'⟩, true⟩ ⟨fitsD [0, 1, 2, 3, 9, 10], ⟨hi, hc'⟩, by dsimp only; omega⟩ | (exfalso; omega)
        · obtain ⟨q1, q2, q3⟩ := int_ok hc' hz
          have HI := ac_ID s'.mv s'.ms s'.mg s'.mq s'.L s'.L.length rfl (by omega) 0 q1 s'.id (by unfold idS; rw [if_neg (by decide)]; exact q2)
          have HT := ac_intact s'.mv s'.ms s'.mg s'.mq s'.L s'.L.length rfl (by omega) s'.data (by omega) 0 q1 0 q3
          clear hc hu hs' he hz q1 q2 q3 hsh2
          obtain ⟨ver, id, kn, mv, ms, mg, mq, L, data, bits, P⟩ := s
          obtain ⟨ver', id', kn', mv', ms', mg', mq', L', data', bits', P'⟩ := s'
          dsimp only at *
          repeat' first | intro h1 | refine st (h := ok_not_dec2 rfl) ?_ | refine sd (h := ok_not_dec2 rfl) ?_ | refine st (h := ok_load_rowsE (f := updC) (cs := [.int .i64 uk, .int .i64 uv, .string ui, .int .i64 up, .int .i64 ut, .int .u64 ub, .string ud]) i (fun _ => rfl) hq rfl rfl rfl rfl (by omega)) ?_ | refine st (h := ok_str_eqlT rfl rfl) ?_ | refine st (h := ok_str_neqF rfl rfl) ?_ | refine sd (h := ok_str_eqlT rfl rfl) ?_ | refine sd (h := ok_str_neqF rfl rfl) ?_ | refine st ?_ | refine sdNR (r' := .agg #[.int .i64 ver, .string id, .bool kn, .int .i64 mv, .int .i64 ms, .int .i64 mg, .int .i64 mq, .slice (some ⟨7, 0, none⟩) L.length L.length, .string data, .int .u64 bits, .slice (some ⟨8, 0, none⟩) P.length P.length]) (N := [some ⟨List.map Value.string L, true, 1⟩, some ⟨List.map Value.string P, true, 1⟩]) [4, 5] 2 HP ?_ | refine sdNR (r' := .tuple #[.agg #[.int .i64 ver', .string id', .bool kn', .int .i64 mv', .int .i64 ms', .int .i64 mg', .int .i64 mq', .slice (some ⟨9, 0, none⟩) L'.length L'.length, .string data', .int .u64 bits', .slice (some ⟨10, 0, none⟩) P'.length P'.length], .bool e, .int .i64 0]) (N := [some ⟨List.map Value.string L', true, 1⟩, some ⟨List.map Value.string P', true, 1⟩]) [7, 8] 2 HE ?_ | refine stMW [9, 10] HQ ?_ | refine stRW [12, 13] HC ?_ | refine stRW [14, 15] HM ?_ | refine stRW [9] HI ?_ | refine stRW [9] HT ?_ | refine sdRW [9] HI ?_ | refine sdRW [9] HT ?_ | refine stm ?_ | refine Ja ?_ | refine Jb ?_ | refine Jc ?_ | refine Jd ?_ | refine Je ?_ | refine Jf ?_ | refine Jg ?_ | refine Jh ?_ ?_ | refine Ji ?_ ?_ | refine Jj ?_ ?_ | refine run_nil ?_ | refine sd ?_ | refine sdl ?_ | refine sdm (n := 1) ?_ | refine sdm ?_ | refine sdb ?_ | refine Jk ?_ | refine Jl ?_ | refine Jm ?_ | refine Jn ?_ ?_ | refine Jo ?_ ?_ | refine Jp ?_ ?_ | refine rund_nil ?_ | refine Jz ?_ | refine Jw ?_ | refine Jx (id := 6) [0,1,0,7,15,31,31,31,0,319,895,2047] 9 ?_ | refine aw_block ?_ | refine Jq ?_ | refine Jr ?_ | refine Js ?_ | refine Jt ?_ | refine Ju ?_ ?_ | refine Jv ?_ ?_ | refine Jy ?_ | refine aw_exit ?_ | refine aw_ret ?_ | refine pp_ret ?_ | refine pp_normal ?_
          all_goals first | exact Exists.intro ⟨i + 1, ⟨ver', id', kn', mv', ms', mg', mq', L', data', bits', P'⟩, true⟩ ⟨fitsD [0, 1, 2, 3, 9, 10], ⟨hi, hc'⟩, by dsimp only; omega⟩ | (exfalso; omega)
      · have hu : valU uk uv ui up ut ub ud = false := by simpa using hu
        have HX := ac_HearX s s.L.length s.P.length rfl rfl ⟨by omega, by omega⟩ b4 (by omega) hc uk uv ui up ut ub ud hu
        have g2 : i + 1 ≤ m ∧ chS s = true := ⟨hi, hc⟩
        clear hc hu
        obtain ⟨ver, id, kn, mv, ms, mg, mq, L, data, bits, P⟩ := s
        dsimp only at HP HX b1 b2 b3 b4 ⊢
        repeat' first | intro h1 | refine st (h := ok_not_dec2 rfl) ?_ | refine sd (h := ok_not_dec2 rfl) ?_ | refine st (h := ok_load_rowsE (f := updC) (cs := [.int .i64 uk, .int .i64 uv, .string ui, .int .i64 up, .int .i64 ut, .int .u64 ub, .string ud]) i (fun _ => rfl) hq rfl rfl rfl rfl (by omega)) ?_ | refine st ?_ | refine sdNR (r' := .agg #[.int .i64 ver, .string id, .bool kn, .int .i64 mv, .int .i64 ms, .int .i64 mg, .int .i64 mq, .slice (some ⟨7, 0, none⟩) L.length L.length, .string data, .int .u64 bits, .slice (some ⟨8, 0, none⟩) P.length P.length]) (N := [some ⟨List.map Value.string L, true, 1⟩, some ⟨List.map Value.string P, true, 1⟩]) [4, 5] 2 HP ?_ | refine sdRW [7, 8] HX ?_ | refine stm ?_ | refine Ja ?_ | refine Jb ?_ | refine Jc ?_ | refine Jd ?_ | refine Je ?_ | refine Jf ?_ | refine Jg ?_ | refine Jh ?_ ?_ | refine Ji ?_ ?_ | refine Jj ?_ ?_ | refine run_nil ?_ | refine sd ?_ | refine sdl ?_ | refine sdm (n := 1) ?_ | refine sdm ?_ | refine sdb ?_ | refine Jk ?_ | refine Jl ?_ | refine Jm ?_ | refine Jn ?_ ?_ | refine Jo ?_ ?_ | refine Jp ?_ ?_ | refine rund_nil ?_ | refine Jz ?_ | refine Jw ?_ | refine Jx (id := 6) [0,1,0,7,15,31,31,31,0,319,895,2047] 9 ?_ | refine aw_block ?_ | refine Jq ?_ | refine Jr ?_ | refine Js ?_ | refine Jt ?_ | refine Ju ?_ ?_ | refine Jv ?_ ?_ | refine Jy ?_ | refine aw_exit ?_ | refine aw_ret ?_ | refine pp_ret ?_ | refine pp_normal ?_
        all_goals first | exact Exists.intro ⟨i + 1, ⟨ver, id, kn, mv, ms, mg, mq, L, data, bits, P⟩, r⟩ ⟨fitsD [0, 1, 2, 3, 4, 5], g2, by dsimp only; omega⟩ | (exfalso; omega)
    · obtain rfl : i = m := by omega
      repeat' first | intro h1 | refine st (h := ok_not_dec2 rfl) ?_ | refine sd (h := ok_not_dec2 rfl) ?_ | refine st ?_ | refine stm ?_ | refine Ja ?_ | refine Jb ?_ | refine Jc ?_ | refine Jd ?_ | refine Je ?_ | refine Jf ?_ | refine Jg ?_ | refine Jh ?_ ?_ | refine Ji ?_ ?_ | refine Jj ?_ ?_ | refine run_nil ?_ | refine sd ?_ | refine sdl ?_ | refine sdm (n := 1) ?_ | refine sdm ?_ | refine sdb ?_ | refine Jk ?_ | refine Jl ?_ | refine Jm ?_ | refine Jn ?_ ?_ | refine Jo ?_ ?_ | refine Jp ?_ ?_ | refine rund_nil ?_ | refine Jz ?_ | refine Jw ?_ | refine Jx (id := 6) [0,1,0,7,15,31,31,31,0,319,895,2047] 9 ?_ | refine aw_block ?_ | refine Jq ?_ | refine Jr ?_ | refine Js ?_ | refine Jt ?_ | refine Ju ?_ ?_ | refine Jv ?_ ?_ | refine Jy ?_ | refine aw_exit ?_ | refine aw_ret ?_ | refine pp_ret ?_ | refine pp_normal ?_
      all_goals first
        | rfl
        | (exfalso; omega)
        | (simp [retOf]; done)
        | (exfalso; simp_all; done)
end Go.Proofs.Ytekkdoaakilafaa
