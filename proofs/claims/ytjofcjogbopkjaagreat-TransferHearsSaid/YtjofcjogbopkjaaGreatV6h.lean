/- Transfer: Hear of a manifest. -/
import Derived.Test.YtjofcjogbopkjaaGreatVL
import Derived.Test.YtjofcjogbopkjaaGreatV2h
import Derived.Test.YtjofcjogbopkjaaGreatT4
set_option linter.unusedVariables false
set_option linter.unusedSimpArgs false
namespace Go.Proofs.YtjofcjogbopkjaaGreat
open Go Av
set_option maxRecDepth 20000
set_option maxHeartbeats 16000000 in
theorem ac_HearM (s : Sto) (n p : Nat) (hn : s.L.length = n) (hp : s.P.length = p) (hb : n ≤ 1000000 ∧ p ≤ 1000000) (hbits : s.bits < 18446744073709551616) (hd : s.data.size ≤ 100000) (hc : chS s = true) (uk uv : Int) (ui : ByteArray) (up ut : Int) (ub : Nat) (ud : ByteArray) (hu : valU uk uv ui up ut ub ud = true) (hk : uk = 3) (hv : uv = s.ver) (hi : ui = s.id) (hkn : s.kn = false) (hud : ud.size ≤ 4096) (s' : Sto) (hs' : maS s ud = s') (n' p' : Nat) (hn' : s'.L.length = n') (hp' : s'.P.length = p') : ACalls Tryz.prog 9 [.agg #[.int .i64 s.ver, .string s.id, .bool s.kn, .int .i64 s.mv, .int .i64 s.ms, .int .i64 s.mg, .int .i64 s.mq, .slice (some ⟨0, 0, none⟩) n n, .string s.data, .int .u64 s.bits, .slice (some ⟨1, 0, none⟩) p p], .agg #[.int .i64 uk, .int .i64 uv, .string ui, .int .i64 up, .int .i64 ut, .int .u64 ub, .string ud]] [some ⟨List.map Value.string s.L, false, 1⟩, some ⟨List.map Value.string s.P, false, 1⟩] (.tuple #[.agg #[.int .i64 s'.ver, .string s'.id, .bool s'.kn, .int .i64 s'.mv, .int .i64 s'.ms, .int .i64 s'.mg, .int .i64 s'.mq, .slice (some ⟨2, 0, none⟩) n' n', .string s'.data, .int .u64 s'.bits, .slice (some ⟨3, 0, none⟩) p' p'], .bool false, .int .i64 0]) [none, none, some ⟨List.map Value.string s'.L, true, 1⟩, some ⟨List.map Value.string s'.P, true, 1⟩] := by
  have H0 := ac_check s n p hn hp hb hbits (by omega) _ hc
  have H1 := ac_valid uk uv ui up ut ub ud _ hu
  have H4 := ac_own s.mv s.ms s.mg s.mq s.L n hn hb.1
  have H5 := ac_cloneS s.P p hp hb.2
  have hno : s.data.size = 0 := by
    rcases chS_spec hc with h | ⟨_, _, _, h⟩
    · exact (of_decide_eq_true h).2.2.2.2.1
    · exact (of_decide_eq_true (h hkn)).2.1
  obtain ⟨N, hN⟩ : ∃ N, deN ud = N := ⟨_, rfl⟩
  obtain ⟨v, hvv⟩ : ∃ v, valS (ud.extract 0 2) = v := ⟨_, rfl⟩
  obtain ⟨z, hzz⟩ : ∃ v, valS (ud.extract 2 6) = v := ⟨_, rfl⟩
  obtain ⟨q, hqq⟩ : ∃ v, valS (ud.extract 6 8) = v := ⟨_, rfl⟩
  obtain ⟨r, hrr⟩ : ∃ v, valS (ud.extract 8 9) = v := ⟨_, rfl⟩
  unfold maS at hs'
  dsimp only at hs'
  rw [hN, hvv, hzz, hqq, hrr] at hs'
  rcases de_cases ud with h0 | h0
  · have HD := ac_decode ud (by omega) 0 h0 N hN v z q r hvv hzz hqq hrr
    rw [if_neg (by decide), if_neg (by decide)] at HD
    obtain ⟨hcm, _⟩ := enc_de h0
    rw [hvv, hzz, hqq, hrr, hN] at hcm
    have hlen := clL_len ud N
    obtain ⟨M, hM⟩ : ∃ M, clL ud N = M := ⟨_, rfl⟩
    rw [hM] at HD hcm hlen hs'
    obtain ⟨D, hD⟩ : ∃ D, dig 0 (idB (encS v z q r M)).data.toList = D := ⟨_, rfl⟩
    rw [hD] at hs'
    have HI := ac_ID v z q r M N hlen (by have := (chk_ok hcm).2.2.1; omega) 0 hcm D (by rw [← hD]; exact if_neg (by decide))
    have hNb : N ≤ 64 := by have := (chk_ok hcm).2.2.1; omega
    by_cases h1 : v = s.ver ∧ D = s.id
    · rw [if_pos ⟨h0, h1⟩] at hs'
      have hdb : dnB z q s.data.size = true := decide_eq_true (.inr (by have := (chk_ok hcm).2.1; rw [hno]; exact ⟨by omega, Int.zero_emod _⟩))
      have HX := ac_next { s with kn := true, mv := v, ms := z, mg := q, mq := r, L := M } N p hlen hp ⟨by omega, hb.2⟩ hcm hdb (by show s.data.size ≤ 1000000; omega) s'.P p' (by rw [← hs']) hp'
      have e1 : s'.ver = s.ver ∧ s'.id = s.id ∧ s'.kn = true ∧ s'.mv = v ∧ s'.ms = z ∧ s'.mg = q ∧ s'.mq = r ∧ s'.L = M ∧ s'.data = s.data ∧ s'.bits = 0 := by rw [← hs']; exact ⟨rfl, rfl, rfl, rfl, rfl, rfl, rfl, rfl, rfl, rfl⟩
      clear hc hu hs' hcm hdb h0 hvv hzz hqq hrr hN hM hD hbits
      obtain ⟨ver', id', kn', mv', ms', mg', mq', L', data', bits', P'⟩ := s'
      dsimp only at e1 HX hn' hp' ⊢
      obtain ⟨rfl, rfl, rfl, rfl, rfl, rfl, rfl, rfl, rfl, rfl⟩ := e1
      obtain rfl : n' = N := by omega
      obtain ⟨rfl, h1⟩ := h1
      subst h1
      (obtain ⟨ver, id, kn, mv, ms, mg, mq, L, data, bits, P⟩ := s); (dsimp only at *)
      subst hk hv hi hkn
      refine acalls_of_aw Tryz.func9 rfl rfl ?_
      repeat' first | refine st (h := ok_str_eqlT rfl rfl) ?_ | refine st ?_ | refine stRW [0, 1] H0 ?_ | refine st_call (H1) ?_ | refine sdNR (r' := .agg #[.int .i64 mv, .int .i64 ms, .int .i64 mg, .int .i64 mq, .slice (some ⟨5, 0, none⟩) n n]) (N := [some ⟨List.map Value.string L, true, 1⟩]) [0] 1 H4 ?_ | refine sdNR (r' := .slice (some ⟨6, 0, none⟩) p p) (N := [some ⟨List.map Value.string P, true, 1⟩]) [1] 1 H5 ?_ | refine stMW [] HD ?_ | refine stRW [7] HI ?_ | refine stMW [7, 6, 2] HX ?_ | refine stm ?_ | refine Ja ?_ | refine Jb ?_ | refine Jd ?_ | refine run_nil ?_ | refine Own.so ?_ | refine Own.sol ?_ | refine Own.sow ?_ | refine Own.sob ?_ | refine Own.runo_nil ?_ | refine sd ?_ | refine sdl ?_ | refine sdb ?_ | refine Jl ?_ | refine rund_nil ?_ | refine Jz ?_ | refine Jw ?_ | refine Jx (id := 3) [0,1,3,7,15,31,63,127,255,511,511,1535,4095,8191,16383] 15 ?_ | refine Jx (id := 4) [0,1,3,0,8,31,63,127,255,511] 7 ?_ | refine aw_region_oC (id := 12) [0, 0, 2, 7, 15] 3 [[], [], [2], [], []] (by (repeat constructor)) (by kernel_rfl) (by kernel_rfl) (by kernel_rfl) (by rfl) (by rfl) ?_ | refine aw_block ?_ | refine Jq ?_ | refine Jr ?_ | refine Jy ?_ | refine aw_ret ?_
      all_goals first | exact pm_ret _ (renumD [0, 1, 7, 9]) rfl
    · rw [if_neg (fun h => h1 h.2)] at hs'
      subst hs'
      obtain rfl : n = n' := by omega
      obtain rfl : p = p' := by omega
      obtain ⟨w, hw⟩ : ∃ w, decide (D = s.id) = w := ⟨_, rfl⟩
      have h1' : v = s.ver → w = false := fun h => by rw [← hw]; exact decide_eq_false fun h2 => h1 ⟨h, h2⟩
      clear hc hu hcm h0 hvv hzz hqq hrr hN hM hD hbits h1
      (obtain ⟨ver, id, kn, mv, ms, mg, mq, L, data, bits, P⟩ := s); (dsimp only at *)
      subst hk hv hi hkn
      by_cases h2 : v = uv
      · have h3 := h1' h2
        subst h3
        clear h1'
        refine acalls_of_aw Tryz.func9 rfl rfl ?_
        repeat' first | refine st (h := ok_str_eqlD rfl rfl hw) ?_ | refine st (h := ok_str_eqlT rfl rfl) ?_ | refine st ?_ | refine stRW [0, 1] H0 ?_ | refine st_call (H1) ?_ | refine sdNR (r' := .agg #[.int .i64 mv, .int .i64 ms, .int .i64 mg, .int .i64 mq, .slice (some ⟨5, 0, none⟩) n n]) (N := [some ⟨List.map Value.string L, true, 1⟩]) [0] 1 H4 ?_ | refine sdNR (r' := .slice (some ⟨6, 0, none⟩) p p) (N := [some ⟨List.map Value.string P, true, 1⟩]) [1] 1 H5 ?_ | refine stMW [] HD ?_ | refine stRW [7] HI ?_ | refine stm ?_ | refine Ja ?_ | refine Jb ?_ | refine Jd ?_ | refine run_nil ?_ | refine sd ?_ | refine sdl ?_ | refine sdb ?_ | refine Jl ?_ | refine rund_nil ?_ | refine Jz ?_ | refine Jw ?_ | refine Jx (id := 3) [0,1,3,7,15,31,63,127,255,511,511,1535,4095,8191,16383] 15 ?_ | refine Jx (id := 4) [0,1,3,0,8,31,63,127,255,511] 7 ?_ | refine aw_block ?_ | refine Jq ?_ | refine Jr ?_ | refine Jy ?_ | refine aw_ret ?_
        all_goals first | exact pm_ret _ (renumD [0, 1, 5, 6]) rfl
      · clear h1'
        refine acalls_of_aw Tryz.func9 rfl rfl ?_
        repeat' first | refine st (h := ok_str_eqlT rfl rfl) ?_ | refine st ?_ | refine stRW [0, 1] H0 ?_ | refine st_call (H1) ?_ | refine sdNR (r' := .agg #[.int .i64 mv, .int .i64 ms, .int .i64 mg, .int .i64 mq, .slice (some ⟨5, 0, none⟩) n n]) (N := [some ⟨List.map Value.string L, true, 1⟩]) [0] 1 H4 ?_ | refine sdNR (r' := .slice (some ⟨6, 0, none⟩) p p) (N := [some ⟨List.map Value.string P, true, 1⟩]) [1] 1 H5 ?_ | refine stMW [] HD ?_ | refine stRW [7] HI ?_ | refine stm ?_ | refine Ja ?_ | refine Jb ?_ | refine Jd ?_ | refine Je ?_ | refine run_nil ?_ | refine sd ?_ | refine sdl ?_ | refine sdb ?_ | refine Jl ?_ | refine rund_nil ?_ | refine Jz ?_ | refine Jw ?_ | refine Jx (id := 3) [0,1,3,7,15,31,63,127,255,511,511,1535,4095,8191,16383] 15 ?_ | refine Jx (id := 4) [0,1,3,0,8,31,63,127,255,511] 7 ?_ | refine aw_block ?_ | refine Jq ?_ | refine Jr ?_ | refine Jy ?_ | refine aw_ret ?_
        all_goals first | exact pm_ret _ (renumD [0, 1, 5, 6]) rfl
  · have HD := ac_decode ud (by omega) 10 h0 N hN v z q r hvv hzz hqq hrr
    rw [if_pos (by decide), if_pos (by decide)] at HD
    rw [if_neg (fun h => by omega)] at hs'
    subst hs'
    obtain rfl : n = n' := by omega
    obtain rfl : p = p' := by omega
    have HI := ac_ID 0 0 0 0 [] 0 rfl (by decide) 1 (by decide +kernel) ⟨#[]⟩ (if_pos (by decide))
    have hw := rfl (a := true)
    clear hc hu h0 hvv hzz hqq hrr hN hbits
    (obtain ⟨ver, id, kn, mv, ms, mg, mq, L, data, bits, P⟩ := s); (dsimp only at *)
    subst hk hv hi hkn
    refine acalls_of_aw Tryz.func9 rfl rfl ?_
    repeat' first | refine st (h := ok_str_eqlT rfl rfl) ?_ | refine st ?_ | refine stRW [0, 1] H0 ?_ | refine st_call (H1) ?_ | refine sdNR (r' := .agg #[.int .i64 mv, .int .i64 ms, .int .i64 mg, .int .i64 mq, .slice (some ⟨5, 0, none⟩) n n]) (N := [some ⟨List.map Value.string L, true, 1⟩]) [0] 1 H4 ?_ | refine sdNR (r' := .slice (some ⟨6, 0, none⟩) p p) (N := [some ⟨List.map Value.string P, true, 1⟩]) [1] 1 H5 ?_ | refine stMW [] HD ?_ | refine stRW [7] HI ?_ | refine stm ?_ | refine Ja ?_ | refine Jb ?_ | refine Jd ?_ | refine run_nil ?_ | refine sd ?_ | refine sdl ?_ | refine sdb ?_ | refine Jl ?_ | refine rund_nil ?_ | refine Jz ?_ | refine Jw ?_ | refine Jx (id := 3) [0,1,3,7,15,31,63,127,255,511,511,1535,4095,8191,16383] 15 ?_ | refine Jx (id := 4) [0,1,3,0,8,31,63,127,255,511] 7 ?_ | refine aw_block ?_ | refine Jq ?_ | refine Jr ?_ | refine Jy ?_ | refine aw_ret ?_
    all_goals first | exact pm_ret _ (renumD [0, 1, 5, 6]) rfl
end Go.Proofs.YtjofcjogbopkjaaGreat
