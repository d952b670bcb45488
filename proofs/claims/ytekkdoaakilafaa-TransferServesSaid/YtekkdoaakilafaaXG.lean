/- TransferServes: the law. TransferServes returns true of every input: Serve returns the specified answers for any store and update.
   Conditions: none. -/
import Derived.Test.YtekkdoaakilafaaVL
import Derived.Test.YtekkdoaakilafaaR7
import Derived.Test.YtekkdoaakilafaaW4
import Derived.Test.YtekkdoaakilafaaY4
import Derived.Test.YtekkdoaakilafaaJ
import Derived.Test.YtekkdoaakilafaaRows
set_option linter.unusedVariables false
set_option linter.unusedSimpArgs false
namespace Go.Proofs.Ytekkdoaakilafaa
open Go Av
set_option maxRecDepth 20000
set_option maxHeartbeats 16000000 in
theorem law_serves (s : Sto) (hbits : s.bits < 18446744073709551616) (uk uv : Int) (ui : ByteArray) (up ut : Int) (ub : Nat) (ud : ByteArray) (hub : ub < 18446744073709551616) : ACalls Try.prog 8 [.agg #[.int .i64 s.ver, .string s.id, .bool s.kn, .int .i64 s.mv, .int .i64 s.ms, .int .i64 s.mg, .int .i64 s.mq, .slice (some ⟨0, 0, none⟩) s.L.length s.L.length, .string s.data, .int .u64 s.bits, .slice (some ⟨1, 0, none⟩) s.P.length s.P.length], .agg #[.int .i64 uk, .int .i64 uv, .string ui, .int .i64 up, .int .i64 ut, .int .u64 ub, .string ud]] [some ⟨List.map Value.string s.L, false, 1⟩, some ⟨List.map Value.string s.P, false, 1⟩] (.bool true) [none, none] := by
  obtain ⟨w, hw⟩ : ∃ w, fewS s = w := ⟨_, rfl⟩
  have HF := ac_FewS s s.L.length s.P.length rfl rfl w hw
  obtain ⟨w2, hw2⟩ : ∃ w, shB [⟨uk, uv, ui, up, ut, ub, ud⟩] 1 = w := ⟨_, rfl⟩
  have HS := ac_Short [⟨uk, uv, ui, up, ut, ub, ud⟩] 1 rfl 1 (by decide) w2 hw2
  cases w
  · clear hw hw2
    obtain ⟨ver, id, kn, mv, ms, mg, mq, L, data, bits, P⟩ := s
    dsimp only at *
    refine acalls_law Try.func8 rfl rfl rfl ?_
    repeat' first | intro h1 | refine st (h := ok_not_dec2 rfl) ?_ | refine sd (h := ok_not_dec2 rfl) ?_ | refine st_call (ac_awake) ?_ | refine st ?_ | refine stRW [0, 1] HF ?_ | refine sdRW [0, 1] HF ?_ | refine stRW [4] HS ?_ | refine stm ?_ | refine Ja ?_ | refine Jb ?_ | refine Jc ?_ | refine Jd ?_ | refine Je ?_ | refine Jf ?_ | refine Jg ?_ | refine Jh ?_ ?_ | refine Ji ?_ ?_ | refine Jj ?_ ?_ | refine run_nil ?_ | refine sd ?_ | refine sdl ?_ | refine sdm (n := 1) ?_ | refine sdm ?_ | refine sdb ?_ | refine Jk ?_ | refine Jl ?_ | refine Jm ?_ | refine Jn ?_ ?_ | refine Jo ?_ ?_ | refine Jp ?_ ?_ | refine rund_nil ?_ | refine Jz ?_ | refine Jw ?_ | refine Jx (id := 3) [0,1,0,7,15,31,31,63,255] 9 ?_ | refine aw_block ?_ | refine Jq ?_ | refine Jr ?_ | refine Js ?_ | refine Jt ?_ | refine Ju ?_ ?_ | refine Jv ?_ ?_ | refine Jy ?_ | refine aw_exit ?_ | refine aw_ret ?_ | refine pp_ret ?_ | refine pp_normal ?_
    all_goals first
      | rfl
      | (exfalso; omega)
      | (simp [retOf]; done)
      | (exfalso; simp_all; done)
  have hfew := fewS_spec hw
  clear hw
  cases w2
  · clear hw2
    obtain ⟨ver, id, kn, mv, ms, mg, mq, L, data, bits, P⟩ := s
    dsimp only at *
    refine acalls_law Try.func8 rfl rfl rfl ?_
    repeat' first | intro h1 | refine st (h := ok_not_dec2 rfl) ?_ | refine sd (h := ok_not_dec2 rfl) ?_ | refine st_call (ac_awake) ?_ | refine st ?_ | refine stRW [0, 1] HF ?_ | refine sdRW [0, 1] HF ?_ | refine stRW [4] HS ?_ | refine stm ?_ | refine Ja ?_ | refine Jb ?_ | refine Jc ?_ | refine Jd ?_ | refine Je ?_ | refine Jf ?_ | refine Jg ?_ | refine Jh ?_ ?_ | refine Ji ?_ ?_ | refine Jj ?_ ?_ | refine run_nil ?_ | refine sd ?_ | refine sdl ?_ | refine sdm (n := 1) ?_ | refine sdm ?_ | refine sdb ?_ | refine Jk ?_ | refine Jl ?_ | refine Jm ?_ | refine Jn ?_ ?_ | refine Jo ?_ ?_ | refine Jp ?_ ?_ | refine rund_nil ?_ | refine Jz ?_ | refine Jw ?_ | refine Jx (id := 3) [0,1,0,7,15,31,31,63,255] 9 ?_ | refine aw_block ?_ | refine Jq ?_ | refine Jr ?_ | refine Js ?_ | refine Jt ?_ | refine Ju ?_ ?_ | refine Jv ?_ ?_ | refine Jy ?_ | refine aw_exit ?_ | refine aw_ret ?_ | refine pp_ret ?_ | refine pp_normal ?_
    all_goals first
      | rfl
      | (exfalso; omega)
      | (simp [retOf]; done)
      | (exfalso; simp_all; done)
  clear hw2
  have HP := ac_cp s s.L.length s.P.length rfl rfl ⟨by omega, by omega⟩
  have hb : s.L.length ≤ 1000000 ∧ s.P.length ≤ 1000000 := ⟨by omega, by omega⟩
  have hd : s.data.size ≤ 100000 := by omega
  clear hfew
  obtain ⟨c, hc⟩ : ∃ c, chS s = c := ⟨_, rfl⟩
  obtain ⟨v, hv⟩ : ∃ v, valU uk uv ui up ut ub ud = v := ⟨_, rfl⟩
  by_cases h1 : c = true ∧ v = true ∧ uk = 2
  case neg =>
    have H1 := ac_ServeX s s.L.length s.P.length rfl rfl hb hbits hd uk uv ui up ut ub ud c v hc hv h1
    have H2 := ac_rServeX s s.L.length s.P.length rfl rfl hb hbits hd uk uv ui up ut ub ud c v hc hv h1
    have H3 := ac_equalU [] 0 rfl (by decide)
    clear h1 hc hv
    obtain ⟨ver, id, kn, mv, ms, mg, mq, L, data, bits, P⟩ := s
    dsimp only at *
    refine acalls_law Try.func8 rfl rfl rfl ?_
    refine aw_ghost 7 rfl ?_
    refine aw_ghost 7 rfl ?_
    repeat' first | intro h1 | refine st (h := ok_not_dec2 rfl) ?_ | refine sd (h := ok_not_dec2 rfl) ?_ | refine st_call (ac_awake) ?_ | refine st ?_ | refine stRW [0, 1] HF ?_ | refine sdRW [0, 1] HF ?_ | refine stRW [6] HS ?_ | refine sdNR (r' := .agg #[.int .i64 ver, .string id, .bool kn, .int .i64 mv, .int .i64 ms, .int .i64 mg, .int .i64 mq, .slice (some ⟨7, 0, none⟩) L.length L.length, .string data, .int .u64 bits, .slice (some ⟨8, 0, none⟩) P.length P.length]) (N := [some ⟨List.map Value.string L, true, 1⟩, some ⟨List.map Value.string P, true, 1⟩]) [0, 1] 2 HP ?_ | refine sdRW [7, 8] H1 ?_ | refine stRW [0, 1] H2 ?_ | refine stRW [2, 3] H3 ?_ | refine stm ?_ | refine Ja ?_ | refine Jb ?_ | refine Jc ?_ | refine Jd ?_ | refine Je ?_ | refine Jf ?_ | refine Jg ?_ | refine Jh ?_ ?_ | refine Ji ?_ ?_ | refine Jj ?_ ?_ | refine run_nil ?_ | refine sd ?_ | refine sdl ?_ | refine sdm (n := 1) ?_ | refine sdm ?_ | refine sdb ?_ | refine Jk ?_ | refine Jl ?_ | refine Jm ?_ | refine Jn ?_ ?_ | refine Jo ?_ ?_ | refine Jp ?_ ?_ | refine rund_nil ?_ | refine Jz ?_ | refine Jw ?_ | refine Jx (id := 3) [0,1,0,7,15,31,31,63,255] 9 ?_ | refine aw_block ?_ | refine Jq ?_ | refine Jr ?_ | refine Js ?_ | refine Jt ?_ | refine Ju ?_ ?_ | refine Jv ?_ ?_ | refine Jy ?_ | refine aw_exit ?_ | refine aw_ret ?_ | refine pp_ret ?_ | refine pp_normal ?_
    all_goals first
      | rfl
      | (exfalso; omega)
      | (refine congrArg Value.bool ?_; first | exact decide_eq_true (by omega) | exact decide_eq_false (by omega) | exact (decide_eq_true (by omega)).symm | exact (decide_eq_false (by omega)).symm)
      | (show Value.bool _ = Value.bool _; congr 1; first | exact decide_eq_true (by omega) | exact decide_eq_false (by omega) | exact (decide_eq_true (by omega)).symm | exact (decide_eq_false (by omega)).symm)
      | (simp [retOf]; done)
  obtain ⟨rfl, rfl, rfl⟩ := h1
  obtain ⟨rfl, rfl⟩ : ut = 0 ∧ ud = ⟨#[]⟩ := by
    have h := hv
    unfold valU at h
    rw [Bool.and_eq_true, if_neg (by decide), if_pos rfl] at h
    have h2 := of_decide_eq_true h.2
    exact ⟨h2.2.1, empty_size.1 h2.2.2⟩
  by_cases h1 : s.kn = true ∧ uv = s.ver ∧ ui = s.id
  case neg =>
    have H1 := ac_ServeN s s.L.length s.P.length rfl rfl hb hbits hd uv ui up ub hc hv h1
    have H2 := ac_rServeN s s.L.length s.P.length rfl rfl hb hbits hd uv ui up ub hc hv h1
    have H3 := ac_equalU [] 0 rfl (by decide)
    clear h1 hc hv
    obtain ⟨ver, id, kn, mv, ms, mg, mq, L, data, bits, P⟩ := s
    dsimp only at *
    refine acalls_law Try.func8 rfl rfl rfl ?_
    refine aw_ghost 7 rfl ?_
    refine aw_ghost 7 rfl ?_
    repeat' first | intro h1 | refine st (h := ok_not_dec2 rfl) ?_ | refine sd (h := ok_not_dec2 rfl) ?_ | refine st_call (ac_awake) ?_ | refine st ?_ | refine stRW [0, 1] HF ?_ | refine sdRW [0, 1] HF ?_ | refine stRW [6] HS ?_ | refine sdNR (r' := .agg #[.int .i64 ver, .string id, .bool kn, .int .i64 mv, .int .i64 ms, .int .i64 mg, .int .i64 mq, .slice (some ⟨7, 0, none⟩) L.length L.length, .string data, .int .u64 bits, .slice (some ⟨8, 0, none⟩) P.length P.length]) (N := [some ⟨List.map Value.string L, true, 1⟩, some ⟨List.map Value.string P, true, 1⟩]) [0, 1] 2 HP ?_ | refine sdRW [7, 8] H1 ?_ | refine stRW [0, 1] H2 ?_ | refine stRW [2, 3] H3 ?_ | refine stm ?_ | refine Ja ?_ | refine Jb ?_ | refine Jc ?_ | refine Jd ?_ | refine Je ?_ | refine Jf ?_ | refine Jg ?_ | refine Jh ?_ ?_ | refine Ji ?_ ?_ | refine Jj ?_ ?_ | refine run_nil ?_ | refine sd ?_ | refine sdl ?_ | refine sdm (n := 1) ?_ | refine sdm ?_ | refine sdb ?_ | refine Jk ?_ | refine Jl ?_ | refine Jm ?_ | refine Jn ?_ ?_ | refine Jo ?_ ?_ | refine Jp ?_ ?_ | refine rund_nil ?_ | refine Jz ?_ | refine Jw ?_ | refine Jx (id := 3) [0,1,0,7,15,31,31,63,255] 9 ?_ | refine aw_block ?_ | refine Jq ?_ | refine Jr ?_ | refine Js ?_ | refine Jt ?_ | refine Ju ?_ ?_ | refine Jv ?_ ?_ | refine Jy ?_ | refine aw_exit ?_ | refine aw_ret ?_ | refine pp_ret ?_ | refine pp_normal ?_
    all_goals first
      | rfl
      | (exfalso; omega)
      | (refine congrArg Value.bool ?_; first | exact decide_eq_true (by omega) | exact decide_eq_false (by omega) | exact (decide_eq_true (by omega)).symm | exact (decide_eq_false (by omega)).symm)
      | (show Value.bool _ = Value.bool _; congr 1; first | exact decide_eq_true (by omega) | exact decide_eq_false (by omega) | exact (decide_eq_true (by omega)).symm | exact (decide_eq_false (by omega)).symm)
      | (simp [retOf]; done)
  obtain ⟨hkn, hver, hid⟩ := h1
  by_cases hup : up < 0
  · have hup1 : up = -1 := by
      have h := hv
      unfold valU at h
      rw [Bool.and_eq_true, if_neg (by decide), if_pos rfl] at h
      have h2 := (of_decide_eq_true h.2).1
      omega
    have H1 := ac_ServeM s s.L.length s.P.length rfl rfl hb hbits hd hc hkn uv ui up ub hv hver hid hup
    have H2 := ac_rServeM s s.L.length s.P.length rfl rfl hb hbits hd hc hkn uv ui up ub hv hver hid hup1
    obtain ⟨Z, hZ⟩ : ∃ Z, srvL s up ub = Z := ⟨_, rfl⟩
    have hlen : Z.length = 1 := by rw [← hZ]; unfold srvL; rw [if_pos hup]; rfl
    rw [hZ] at H1 H2
    have H3 := ac_equalU Z 1 hlen (by decide)
    clear hc hv hZ
    obtain ⟨ver, id, kn, mv, ms, mg, mq, L, data, bits, P⟩ := s
    dsimp only at *
    refine acalls_law Try.func8 rfl rfl rfl ?_
    repeat' first | intro h1 | refine st (h := ok_not_dec2 rfl) ?_ | refine sd (h := ok_not_dec2 rfl) ?_ | refine st_call (ac_awake) ?_ | refine st ?_ | refine stRW [0, 1] HF ?_ | refine sdRW [0, 1] HF ?_ | refine stRW [4] HS ?_ | refine sdNR (r' := .agg #[.int .i64 ver, .string id, .bool kn, .int .i64 mv, .int .i64 ms, .int .i64 mg, .int .i64 mq, .slice (some ⟨5, 0, none⟩) L.length L.length, .string data, .int .u64 bits, .slice (some ⟨6, 0, none⟩) P.length P.length]) (N := [some ⟨List.map Value.string L, true, 1⟩, some ⟨List.map Value.string P, true, 1⟩]) [0, 1] 2 HP ?_ | refine sdNR (r' := .tuple #[.slice (some ⟨7, 0, none⟩) 1 1, .int .i64 0]) (N := [some ⟨Z.flatMap updC, true, 7⟩]) [5, 6] 1 H1 ?_ | refine stMW [0, 1] H2 ?_ | refine stRW [7, 8] H3 ?_ | refine stm ?_ | refine Ja ?_ | refine Jb ?_ | refine Jc ?_ | refine Jd ?_ | refine Je ?_ | refine Jf ?_ | refine Jg ?_ | refine Jh ?_ ?_ | refine Ji ?_ ?_ | refine Jj ?_ ?_ | refine run_nil ?_ | refine sd ?_ | refine sdl ?_ | refine sdm (n := 1) ?_ | refine sdm ?_ | refine sdb ?_ | refine Jk ?_ | refine Jl ?_ | refine Jm ?_ | refine Jn ?_ ?_ | refine Jo ?_ ?_ | refine Jp ?_ ?_ | refine rund_nil ?_ | refine Jz ?_ | refine Jw ?_ | refine Jx (id := 3) [0,1,0,7,15,31,31,63,255] 9 ?_ | refine aw_block ?_ | refine Jq ?_ | refine Jr ?_ | refine Js ?_ | refine Jt ?_ | refine Ju ?_ ?_ | refine Jv ?_ ?_ | refine Jy ?_ | refine aw_exit ?_ | refine aw_ret ?_ | refine pp_ret ?_ | refine pp_normal ?_
    all_goals first
      | rfl
      | (exfalso; omega)
      | (refine congrArg Value.bool ?_; first | exact decide_eq_true (by omega) | exact decide_eq_false (by omega) | exact (decide_eq_true (by omega)).symm | exact (decide_eq_false (by omega)).symm)
      | (show Value.bool _ = Value.bool _; congr 1; first | exact decide_eq_true (by omega) | exact decide_eq_false (by omega) | exact (decide_eq_true (by omega)).symm | exact (decide_eq_false (by omega)).symm)
      | (simp [retOf]; done)
  · have hkb : knB s = true := by
      rcases chS_spec hc with h | ⟨_, _, h, _⟩
      · exact absurd (of_decide_eq_true h).2.2.1 (by rw [hkn]; decide)
      · exact h hkn
    obtain ⟨r1, r2, r3, r4, k, r5, r6, r7, r8, r9, r10, r11, r12, r13⟩ := knB_spec rfl rfl hkb
    have hpc := fun (i : Nat) (hi : i < s.L.length) => page_fc (i := i) rfl r1 hi
    clear r1 r2 r3 r4 r7 r8 r9 hkb
    by_cases hik : (k : Int) ≤ up
    · have H1 := ac_ServeE s s.L.length s.P.length rfl rfl hb hbits hd hc hkn uv ui up ub hv hver hid (by omega) k r5 hik
      have H2 := ac_rServeE s s.L.length s.P.length rfl rfl hb hbits hd hc hkn uv ui up ub hv hver hid (by omega) k r5 hik
      have H3 := ac_equalU [] 0 rfl (by decide)
      clear hc hv r5 hpc
      obtain ⟨ver, id, kn, mv, ms, mg, mq, L, data, bits, P⟩ := s
      dsimp only at *
      refine acalls_law Try.func8 rfl rfl rfl ?_
      refine aw_ghost 7 rfl ?_
      repeat' first | intro h1 | refine st (h := ok_not_dec2 rfl) ?_ | refine sd (h := ok_not_dec2 rfl) ?_ | refine st_call (ac_awake) ?_ | refine st ?_ | refine stRW [0, 1] HF ?_ | refine sdRW [0, 1] HF ?_ | refine stRW [5] HS ?_ | refine sdNR (r' := .agg #[.int .i64 ver, .string id, .bool kn, .int .i64 mv, .int .i64 ms, .int .i64 mg, .int .i64 mq, .slice (some ⟨6, 0, none⟩) L.length L.length, .string data, .int .u64 bits, .slice (some ⟨7, 0, none⟩) P.length P.length]) (N := [some ⟨List.map Value.string L, true, 1⟩, some ⟨List.map Value.string P, true, 1⟩]) [0, 1] 2 HP ?_ | refine sdNR (r' := .tuple #[.slice (some ⟨8, 0, none⟩) 0 0, .int .i64 0]) (N := [some ⟨[], true, 7⟩]) [6, 7] 1 H1 ?_ | refine stRW [0, 1] H2 ?_ | refine stRW [8, 2] H3 ?_ | refine stm ?_ | refine Ja ?_ | refine Jb ?_ | refine Jc ?_ | refine Jd ?_ | refine Je ?_ | refine Jf ?_ | refine Jg ?_ | refine Jh ?_ ?_ | refine Ji ?_ ?_ | refine Jj ?_ ?_ | refine run_nil ?_ | refine sd ?_ | refine sdl ?_ | refine sdm (n := 1) ?_ | refine sdm ?_ | refine sdb ?_ | refine Jk ?_ | refine Jl ?_ | refine Jm ?_ | refine Jn ?_ ?_ | refine Jo ?_ ?_ | refine Jp ?_ ?_ | refine rund_nil ?_ | refine Jz ?_ | refine Jw ?_ | refine Jx (id := 3) [0,1,0,7,15,31,31,63,255] 9 ?_ | refine aw_block ?_ | refine Jq ?_ | refine Jr ?_ | refine Js ?_ | refine Jt ?_ | refine Ju ?_ ?_ | refine Jv ?_ ?_ | refine Jy ?_ | refine aw_exit ?_ | refine aw_ret ?_ | refine pp_ret ?_ | refine pp_normal ?_
      all_goals first
        | rfl
        | (exfalso; omega)
        | (refine congrArg Value.bool ?_; first | exact decide_eq_true (by omega) | exact decide_eq_false (by omega) | exact (decide_eq_true (by omega)).symm | exact (decide_eq_false (by omega)).symm)
        | (show Value.bool _ = Value.bool _; congr 1; first | exact decide_eq_true (by omega) | exact decide_eq_false (by omega) | exact (decide_eq_true (by omega)).symm | exact (decide_eq_false (by omega)).symm)
        | (simp [retOf]; done)
    · obtain ⟨i, hi⟩ : ∃ i : Nat, up = i := ⟨up.toNat, by omega⟩
      obtain ⟨Z, hZ⟩ : ∃ Z, srvL s up ub = Z := ⟨_, rfl⟩
      obtain ⟨m, hm⟩ : ∃ m, Z.length = m := ⟨_, rfl⟩
      have hmb : m ≤ 1000000 := by
        obtain ⟨K, k1, k2, k3, _⟩ := hpc i (by omega)
        have hle := preL_len s.ms s.mg s.mq s.data up ub K
        rw [← hm, ← hZ]
        unfold srvL
        rw [if_neg hup, r5, if_pos (by omega), List.length_map, hi, k1, Int.toNat_natCast]
        rw [hi] at hle
        omega
      clear hpc
      have H1 := ac_ServeP s s.L.length s.P.length rfl rfl hb hbits hd hc hkn uv ui up ub hub hv hver hid i hi k r5 (by omega) m (by rw [hZ]; exact hm)
      have H2 := ac_rServeP s s.L.length s.P.length rfl rfl hb hbits hd hc hkn uv ui up ub hub hv hver hid i hi k r5 (by omega) m (by rw [hZ]; exact hm)
      rw [hZ] at H1 H2
      have H3 := ac_equalU Z m hm hmb
      clear hc hv hZ r5
      obtain ⟨ver, id, kn, mv, ms, mg, mq, L, data, bits, P⟩ := s
      dsimp only at *
      refine acalls_law Try.func8 rfl rfl rfl ?_
      repeat' first | intro h1 | refine st (h := ok_not_dec2 rfl) ?_ | refine sd (h := ok_not_dec2 rfl) ?_ | refine st_call (ac_awake) ?_ | refine st ?_ | refine stRW [0, 1] HF ?_ | refine sdRW [0, 1] HF ?_ | refine stRW [4] HS ?_ | refine sdNR (r' := .agg #[.int .i64 ver, .string id, .bool kn, .int .i64 mv, .int .i64 ms, .int .i64 mg, .int .i64 mq, .slice (some ⟨5, 0, none⟩) L.length L.length, .string data, .int .u64 bits, .slice (some ⟨6, 0, none⟩) P.length P.length]) (N := [some ⟨List.map Value.string L, true, 1⟩, some ⟨List.map Value.string P, true, 1⟩]) [0, 1] 2 HP ?_ | refine sdNR (r' := .tuple #[.slice (some ⟨7, 0, none⟩) m m, .int .i64 0]) (N := [some ⟨Z.flatMap updC, true, 7⟩]) [5, 6] 1 H1 ?_ | refine stMW [0, 1] H2 ?_ | refine stRW [7, 8] H3 ?_ | refine stm ?_ | refine Ja ?_ | refine Jb ?_ | refine Jc ?_ | refine Jd ?_ | refine Je ?_ | refine Jf ?_ | refine Jg ?_ | refine Jh ?_ ?_ | refine Ji ?_ ?_ | refine Jj ?_ ?_ | refine run_nil ?_ | refine sd ?_ | refine sdl ?_ | refine sdm (n := 1) ?_ | refine sdm ?_ | refine sdb ?_ | refine Jk ?_ | refine Jl ?_ | refine Jm ?_ | refine Jn ?_ ?_ | refine Jo ?_ ?_ | refine Jp ?_ ?_ | refine rund_nil ?_ | refine Jz ?_ | refine Jw ?_ | refine Jx (id := 3) [0,1,0,7,15,31,31,63,255] 9 ?_ | refine aw_block ?_ | refine Jq ?_ | refine Jr ?_ | refine Js ?_ | refine Jt ?_ | refine Ju ?_ ?_ | refine Jv ?_ ?_ | refine Jy ?_ | refine aw_exit ?_ | refine aw_ret ?_ | refine pp_ret ?_ | refine pp_normal ?_
      all_goals first
        | rfl
        | (exfalso; omega)
        | (refine congrArg Value.bool ?_; first | exact decide_eq_true (by omega) | exact decide_eq_false (by omega) | exact (decide_eq_true (by omega)).symm | exact (decide_eq_false (by omega)).symm)
        | (show Value.bool _ = Value.bool _; congr 1; first | exact decide_eq_true (by omega) | exact decide_eq_false (by omega) | exact (decide_eq_true (by omega)).symm | exact (decide_eq_false (by omega)).symm)
        | (simp [retOf]; done)
end Go.Proofs.Ytekkdoaakilafaa
namespace Go.Proofs.Ytekkdoaakilafaa
open Go Av
set_option maxRecDepth 20000
open Go.ChangeShapes Go.WideShapes Go.ChangeAt Go.RowKit
namespace transferServes
theorem own : ownKnob Try.prog.godebug = none := by kernel_rfl
set_option maxRecDepth 100000 in
theorem lifted (os : Os) (started : os.Started) (H : Type) (enc : TypeId × Value → H) :
    ReturnsInHanded {} Try.checked os 8 .any (Rows.transferServesSpec.pre6 enc Try.prog Try.f8 Rows.transferServesRow.domain false) (Rows.transferServesSpec.post enc Try.prog Try.f8 false true false false) := by
  refine returnsInHanded_of_change_sized (C := Try.checked) own started (by kernel_rfl) Try.func8
    (ChangeSpec.witness6 (enc := enc) (C := Try.checked) false ⟨#[], #[.agg #[.int .i64 0, .string .empty, .bool false, .int .i64 0, .int .i64 0, .int .i64 0, .int .i64 0, .slice none 0 0, .string .empty, .int .u64 0, .slice none 0 0], .agg #[.int .i64 0, .int .i64 0, .string .empty, .int .i64 0, .int .i64 0, .int .u64 0, .string .empty]], []⟩ 8 (by kernel_rfl) (by kernel_rfl) (by kernel_rfl) (by kernel_rfl)) ?_
  intro W base args ds gs before hval0 hW _ hsz _
  obtain ⟨p, q, hA0, hV, hbf, hfz, hnd⟩ := id hW
  have hA : DataW.TrodAll enc Try.prog W 0 (fun _ => true) true [29, 41] args.toList ds p := hA0
  have hRA0 : RdA Try.prog [] _ _ _ _ := inferInstance
  have hRA1 := rdA_agg (P := Try.prog) (t := 41) (h2 := hRA0)
  have hRA2 := rdA_agg (P := Try.prog) (t := 29) (h2 := hRA1)
  obtain ⟨a, hR, ls, hl, hv, hc⟩ := RdA.rd (P := Try.prog) hA fun j t v h1 h2 => hval0 j t v (by rw [← Array.getElem?_toList]; exact h1) (by rw [← Array.getElem?_toList]; exact h2)
  have hcall := calls_rd0 (P := Try.prog) (f := 8) (r := .bool true) (W := W) (by
    have e1 : IntKind.u64.min = 0 := rfl
    have e2 : IntKind.u64.max = 18446744073709551615 := rfl
    obtain ⟨h1, h2, _⟩ := id hR
    have hb := h1.2.2.2.2.2.1
    have hu := h2.2.2.2.2.2.1
    rw [e1, e2] at hb hu
    have h := law_serves ⟨a.1.1, a.1.2.1, a.1.2.2.1, a.1.2.2.2.1.1, a.1.2.2.2.1.2.1, a.1.2.2.2.1.2.2.1, a.1.2.2.2.1.2.2.2.1, a.1.2.2.2.1.2.2.2.2.1, a.1.2.2.2.2.1, (a.1.2.2.2.2.2.1).toNat, a.1.2.2.2.2.2.2.1⟩ (by show (a.1.2.2.2.2.2.1).toNat < _; omega) a.2.1.1 a.2.1.2.1 a.2.1.2.2.1 a.2.1.2.2.2.1 a.2.1.2.2.2.2.1 a.2.1.2.2.2.2.2.1.toNat a.2.1.2.2.2.2.2.2.1 (by omega)
    dsimp only at h
    rw [Int.toNat_of_nonneg hb.1, Int.toNat_of_nonneg hu.1, ← flat_strs, ← flat_strs] at h
    exact ⟨_, h⟩) rfl hl (hv 0) hc
  obtain ⟨v0, vs0, d0, ds0, p0, q0, x0, rfl, y0, h0, r0⟩ := trodAll_cons hA
  obtain ⟨v1, vs1, d1, ds1, p1, q1, x1, rfl, y1, h1, r1⟩ := trodAll_cons r0
  obtain ⟨_, rfl, _⟩ := trodAll_nil r1
  exact hcall.mono fun e W' ⟨he, hb⟩ => ⟨_, he, law_post (tb := 4) (by kernel_rfl) (by kernel_rfl) rfl Try.underlying4 rfl rfl rfl rfl hW hb⟩
theorem over : Rows.transferServesRow.holds Try.pinned (OpenSpec.ofChange Rows.transferServesSpec) :=
  OpenClaim.holds_of_wide 8 Try.f8 rfl rfl rfl rfl rfl rfl rfl ⟨rfl, rfl, rfl, rfl, rfl⟩ rfl rfl rfl rfl rfl (by kernel_rfl) Try.func8 (by kernel_rfl)
    (of_decide_eq_true (by kernel_rfl)) (by unfold Func.isWrapper; first | (rw [if_pos (by decide +kernel)]; kernel_rfl) | (rw [if_neg (by decide +kernel)]; exact ⟨rfl, rfl⟩))
    (fun os started H enc _ => lifted os started H enc)
theorem proved : Rows.TransferServesSaid := over
#print axioms proved
end transferServes
end Go.Proofs.Ytekkdoaakilafaa
