/- Transfer, the reference: Hear of packets. Transfer, the reference: Hear of a manifest. Transfer, the reference: Hear of anything right. -/
import Derived.Test.YtjofcjogbopkjaaGreatVL
import Derived.Test.YtjofcjogbopkjaaGreatZ3k
import Derived.Test.YtjofcjogbopkjaaGreatZ3p
import Derived.Test.YtjofcjogbopkjaaGreatR5
import Derived.Test.YtjofcjogbopkjaaGreatK3
import Derived.Test.YtjofcjogbopkjaaGreatZ1
import Derived.Test.YtjofcjogbopkjaaGreatV6h
import Derived.Test.YtjofcjogbopkjaaGreatT5
import Derived.Test.YtjofcjogbopkjaaGreatZ6
set_option linter.unusedVariables false
set_option linter.unusedSimpArgs false
namespace Go.Proofs.YtjofcjogbopkjaaGreat
open Go Av
set_option maxRecDepth 20000
set_option maxHeartbeats 16000000 in
/-- Hear of a packet that changes nothing. -/
theorem ac_rHearQ (s : Sto) (n p : Nat) (hn : s.L.length = n) (hp : s.P.length = p) (hb : n ≤ 1000000 ∧ p ≤ 1000000) (hbits : s.bits < 18446744073709551616) (hd : s.data.size ≤ 100000) (hc : chS s = true) (uk uv : Int) (ui : ByteArray) (up ut : Int) (ub : Nat) (ud : ByteArray) (hu : valU uk uv ui up ut ub ud = true) (hk : uk = 4) (hv : uv = s.ver) (hi : ui = s.id) (hkn : s.kn = true) (h : cpB s = true ∨ up ≠ dnN s.ms s.mg n s.data.size ∨ (p : Int) ≤ ut ∨ s.bits.testBit ut.toNat = true ∨ (ud.size : Int) ≠ pkL s.ms s.mg s.mq (dnN s.ms s.mg n s.data.size) ut) : ACalls Tryz.prog 10 [.agg #[.int .i64 s.ver, .string s.id, .bool s.kn, .int .i64 s.mv, .int .i64 s.ms, .int .i64 s.mg, .int .i64 s.mq, .slice (some ⟨0, 0, none⟩) n n, .string s.data, .int .u64 s.bits, .slice (some ⟨1, 0, none⟩) p p], .agg #[.int .i64 uk, .int .i64 uv, .string ui, .int .i64 up, .int .i64 ut, .int .u64 ub, .string ud]] [some ⟨List.map Value.string s.L, false, 1⟩, some ⟨List.map Value.string s.P, false, 1⟩] (.tuple #[.agg #[.int .i64 s.ver, .string s.id, .bool s.kn, .int .i64 s.mv, .int .i64 s.ms, .int .i64 s.mg, .int .i64 s.mq, .slice (some ⟨0, 0, none⟩) n n, .string s.data, .int .u64 s.bits, .slice (some ⟨1, 0, none⟩) p p], .bool false, .int .i64 0]) [none, none] := by
  have H0 := ac_rCheck s n p hn hp hb hbits (by omega) true hc
  have H1 := ac_rValid uk uv ui up ut ub ud true hu
  obtain ⟨A, hA⟩ : ∃ A, anX s = A := ⟨_, rfl⟩
  obtain ⟨E, hE⟩ : ∃ E, anE s = E := ⟨_, rfl⟩
  have H2 := ac_rAnnX s n p hn hp hb hbits (by omega) A hA E hE
  obtain ⟨ak, av, ai, ap, at', ab, ad⟩ := A
  dsimp only at H2
  clear hA hE
  have hut : 0 ≤ ut ∧ ut < 64 := by
    have := (val_kind hu).2
    omega
  have H3 := ac_rpackK s n p hn hp hb hbits hd hc hkn uk uv ui up ut ub ud hut h
  clear hc hu hbits h
  obtain ⟨ver, id, kn, mv, ms, mg, mq, L, data, bits, P⟩ := s
  dsimp only at *
  subst hk hv hi hkn
  refine acalls_of_aw Tryz.func10 rfl rfl ?_
  repeat' first | refine st (h := ok_str_neqF rfl rfl) ?_ | refine st ?_ | refine stRW [0, 1] H0 ?_ | refine stRW [0, 1] H2 ?_ | refine st_call (H1) ?_ | refine stMW [0, 1] H3 ?_ | refine stm ?_ | refine Ja ?_ | refine Jb ?_ | refine Jf ?_ | refine run_nil ?_ | refine Jz ?_ | refine Jw ?_ | refine aw_block ?_ | refine Jq ?_ | refine Jr ?_ | refine Jy ?_ | refine aw_ret ?_
  all_goals first | exact pm_ret _ (renumD [0, 1]) rfl
set_option maxHeartbeats 16000000 in
/-- Hear of a packet. -/
theorem ac_rHearP (s : Sto) (n p : Nat) (hn : s.L.length = n) (hp : s.P.length = p) (hb : n ≤ 1000000 ∧ p ≤ 1000000) (hbits : s.bits < 18446744073709551616) (hd : s.data.size ≤ 100000) (hc : chS s = true) (uk uv : Int) (ui : ByteArray) (up ut : Int) (ub : Nat) (ud : ByteArray) (hu : valU uk uv ui up ut ub ud = true) (hk : uk = 4) (hv : uv = s.ver) (hi : ui = s.id) (hkn : s.kn = true) (k : Nat) (hkk : dnN s.ms s.mg n s.data.size = k) (hk2 : k < n) (hup : up = k) (j : Nat) (hj : ut = j) (hjp : j < p) (hbj : s.bits.testBit j = false) (hsz : (ud.size : Int) = pkL s.ms s.mg s.mq k j) (s' : Sto) (hs' : puS s ⟨uk, uv, ui, up, ut, ub, ud⟩ = s') (p' : Nat) (hp' : s'.P.length = p') : ACalls Tryz.prog 10 [.agg #[.int .i64 s.ver, .string s.id, .bool s.kn, .int .i64 s.mv, .int .i64 s.ms, .int .i64 s.mg, .int .i64 s.mq, .slice (some ⟨0, 0, none⟩) n n, .string s.data, .int .u64 s.bits, .slice (some ⟨1, 0, none⟩) p p], .agg #[.int .i64 uk, .int .i64 uv, .string ui, .int .i64 up, .int .i64 ut, .int .u64 ub, .string ud]] [some ⟨List.map Value.string s.L, false, 1⟩, some ⟨List.map Value.string s.P, false, 1⟩] (.tuple #[.agg #[.int .i64 s'.ver, .string s'.id, .bool s'.kn, .int .i64 s'.mv, .int .i64 s'.ms, .int .i64 s'.mg, .int .i64 s'.mq, .slice (some ⟨0, 0, none⟩) n n, .string s'.data, .int .u64 s'.bits, .slice (some ⟨2, 0, none⟩) p' p'], .bool false, .int .i64 0]) [none, none, some ⟨List.map Value.string s'.P, true, 1⟩] := by
  have H0 := ac_rCheck s n p hn hp hb hbits (by omega) true hc
  have H1 := ac_rValid uk uv ui up ut ub ud true hu
  obtain ⟨A, hA⟩ : ∃ A, anX s = A := ⟨_, rfl⟩
  obtain ⟨E, hE⟩ : ∃ E, anE s = E := ⟨_, rfl⟩
  have H2 := ac_rAnnX s n p hn hp hb hbits (by omega) A hA E hE
  obtain ⟨ak, av, ai, ap, at', ab, ad⟩ := A
  dsimp only at H2
  clear hA hE
  have hut : (0 ≤ ut ∧ ut < 64) ∧ ud.size ≤ 96 := by
    have := (val_kind hu).2
    omega
  have H3 := ac_rpackP s n p hn hp hb hbits hd hc hkn uk uv ui up ut ub ud hut.1 hut.2 k hkk hk2 hup j hj hjp hbj hsz s' hs' p' hp'
  clear hc hu hbits hkk hbj hsz hs'
  obtain ⟨ver, id, kn, mv, ms, mg, mq, L, data, bits, P⟩ := s
  dsimp only at *
  obtain ⟨ver', id', kn', mv', ms', mg', mq', L', data', bits', P'⟩ := s'
  dsimp only at *
  subst hk hv hi hkn
  refine acalls_of_aw Tryz.func10 rfl rfl ?_
  repeat' first | refine st (h := ok_str_neqF rfl rfl) ?_ | refine st ?_ | refine stRW [0, 1] H0 ?_ | refine stRW [0, 1] H2 ?_ | refine st_call (H1) ?_ | refine stMW [0, 1] H3 ?_ | refine stm ?_ | refine Ja ?_ | refine Jb ?_ | refine Jf ?_ | refine run_nil ?_ | refine Jz ?_ | refine Jw ?_ | refine aw_block ?_ | refine Jq ?_ | refine Jr ?_ | refine Jy ?_ | refine aw_ret ?_
  all_goals first | exact pm_ret _ (renumD [0, 1, 6]) rfl
end Go.Proofs.YtjofcjogbopkjaaGreat
namespace Go.Proofs.YtjofcjogbopkjaaGreat
open Go Av
set_option maxRecDepth 20000
set_option maxHeartbeats 16000000 in
/-- Hear of a manifest. -/
theorem ac_rHearM (s : Sto) (n p : Nat) (hn : s.L.length = n) (hp : s.P.length = p) (hb : n ≤ 1000000 ∧ p ≤ 1000000) (hbits : s.bits < 18446744073709551616) (hd : s.data.size ≤ 100000) (hc : chS s = true) (uk uv : Int) (ui : ByteArray) (up ut : Int) (ub : Nat) (ud : ByteArray) (hu : valU uk uv ui up ut ub ud = true) (hk : uk = 3) (hv : uv = s.ver) (hi : ui = s.id) (hkn : s.kn = false) (s' : Sto) (hs' : maS s ud = s') (n' p' : Nat) (hn' : s'.L.length = n') (hp' : s'.P.length = p') :
    ACalls Tryz.prog 10 [.agg #[.int .i64 s.ver, .string s.id, .bool s.kn, .int .i64 s.mv, .int .i64 s.ms, .int .i64 s.mg, .int .i64 s.mq, .slice (some ⟨0, 0, none⟩) n n, .string s.data, .int .u64 s.bits, .slice (some ⟨1, 0, none⟩) p p], .agg #[.int .i64 uk, .int .i64 uv, .string ui, .int .i64 up, .int .i64 ut, .int .u64 ub, .string ud]] [some ⟨List.map Value.string s.L, false, 1⟩, some ⟨List.map Value.string s.P, false, 1⟩] (.tuple #[.agg #[.int .i64 s'.ver, .string s'.id, .bool s'.kn, .int .i64 s'.mv, .int .i64 s'.ms, .int .i64 s'.mg, .int .i64 s'.mq, .slice (some ⟨2, 0, none⟩) n' n', .string s'.data, .int .u64 s'.bits, .slice (some ⟨3, 0, none⟩) p' p'], .bool false, .int .i64 0]) [none, none, some ⟨List.map Value.string s'.L, true, 1⟩, some ⟨List.map Value.string s'.P, true, 1⟩] ∨ (s' = s ∧ ACalls Tryz.prog 10 [.agg #[.int .i64 s.ver, .string s.id, .bool s.kn, .int .i64 s.mv, .int .i64 s.ms, .int .i64 s.mg, .int .i64 s.mq, .slice (some ⟨0, 0, none⟩) n n, .string s.data, .int .u64 s.bits, .slice (some ⟨1, 0, none⟩) p p], .agg #[.int .i64 uk, .int .i64 uv, .string ui, .int .i64 up, .int .i64 ut, .int .u64 ub, .string ud]] [some ⟨List.map Value.string s.L, false, 1⟩, some ⟨List.map Value.string s.P, false, 1⟩] (.tuple #[.agg #[.int .i64 s.ver, .string s.id, .bool s.kn, .int .i64 s.mv, .int .i64 s.ms, .int .i64 s.mg, .int .i64 s.mq, .slice (some ⟨0, 0, none⟩) n n, .string s.data, .int .u64 s.bits, .slice (some ⟨1, 0, none⟩) p p], .bool false, .int .i64 0]) [none, none]) := by
  have H0 := ac_rCheck s n p hn hp hb hbits (by omega) true hc
  have H1 := ac_rValid uk uv ui up ut ub ud true hu
  obtain ⟨A, hA⟩ : ∃ A, anX s = A := ⟨_, rfl⟩
  obtain ⟨E, hE⟩ : ∃ E, anE s = E := ⟨_, rfl⟩
  have H2 := ac_rAnnX s n p hn hp hb hbits (by omega) A hA E hE
  obtain ⟨ak, av, ai, ap, at', ab, ad⟩ := A
  dsimp only at H2
  clear hA hE
  have hud : ud.size ≤ 4096 := by
    have := (val_kind hu).2
    omega
  have hno : s.data.size = 0 := by
    rcases chS_spec hc with h | ⟨_, _, _, h⟩
    · exact (of_decide_eq_true h).2.2.2.2.1
    · exact (of_decide_eq_true (h hkn)).2.1
  have hde := empty_size.1 hno
  obtain ⟨N, hN⟩ : ∃ N, deN ud = N := ⟨_, rfl⟩
  obtain ⟨v, hvv⟩ : ∃ v, valS (ud.extract 0 2) = v := ⟨_, rfl⟩
  obtain ⟨z, hzz⟩ : ∃ v, valS (ud.extract 2 6) = v := ⟨_, rfl⟩
  obtain ⟨q, hqq⟩ : ∃ v, valS (ud.extract 6 8) = v := ⟨_, rfl⟩
  obtain ⟨r, hrr⟩ : ∃ v, valS (ud.extract 8 9) = v := ⟨_, rfl⟩
  unfold maS at hs'
  dsimp only at hs'
  rw [hN, hvv, hzz, hqq, hrr] at hs'
  rcases de_cases ud with h0 | h0
  · have HD := ac_rdecode ud (by omega) 0 h0 N hN v z q r hvv hzz hqq hrr
    rw [if_neg (by decide), if_neg (by decide)] at HD
    obtain ⟨hcm, _⟩ := enc_de h0
    rw [hvv, hzz, hqq, hrr, hN] at hcm
    have hlen := clL_len ud N
    obtain ⟨M, hM⟩ : ∃ M, clL ud N = M := ⟨_, rfl⟩
    rw [hM] at HD hcm hlen hs'
    obtain ⟨D, hD⟩ : ∃ D, dig 0 (idB (encS v z q r M)).data.toList = D := ⟨_, rfl⟩
    rw [hD] at hs'
    have HI := ac_rID v z q r M N hlen (by have := (chk_ok hcm).2.2.1; omega) 0 hcm D (by rw [← hD]; exact if_neg (by decide))
    have hNb : N ≤ 64 := by have := (chk_ok hcm).2.2.1; omega
    by_cases h1 : v = s.ver ∧ D = s.id
    · rw [if_pos ⟨h0, h1⟩] at hs'
      have hdb : dnB z q 0 = true := decide_eq_true (.inr (by have := (chk_ok hcm).2.1; exact ⟨by omega, Int.zero_emod _⟩))
      have HX := ac_rempty ⟨s.ver, s.id, true, v, z, q, r, M, ⟨#[]⟩, 0, []⟩ N 0 hlen rfl ⟨by omega, by omega⟩ hcm hdb s'.P p' (by rw [← hs']; show _ = (nxS _).P; unfold nxS; dsimp only; rw [hno]; rfl) hp'
      have e1 : s'.ver = s.ver ∧ s'.id = s.id ∧ s'.kn = true ∧ s'.mv = v ∧ s'.ms = z ∧ s'.mg = q ∧ s'.mq = r ∧ s'.L = M ∧ s'.data = ⟨#[]⟩ ∧ s'.bits = 0 := by rw [← hs']; exact ⟨rfl, rfl, rfl, rfl, rfl, rfl, rfl, rfl, hde, rfl⟩
      refine .inl ?_
      clear hc hu hs' hcm hdb h0 hvv hzz hqq hrr hN hM hD hbits hno hde
      obtain ⟨ver', id', kn', mv', ms', mg', mq', L', data', bits', P'⟩ := s'
      dsimp only at e1 HX hn' hp' ⊢
      obtain ⟨rfl, rfl, rfl, rfl, rfl, rfl, rfl, rfl, rfl, rfl⟩ := e1
      obtain rfl : n' = N := by omega
      obtain ⟨rfl, h1⟩ := h1
      subst h1
      (obtain ⟨ver, id, kn, mv, ms, mg, mq, L, data, bits, P⟩ := s); (dsimp only at *)
      subst hk hv hi hkn
      refine acalls_of_aw Tryz.func10 rfl rfl ?_
      refine aw_ghost 1 rfl ?_
      repeat' first | refine st (h := ok_str_eqlT rfl rfl) ?_ | refine st (h := ok_str_neqF rfl rfl) ?_ | refine st ?_ | refine stRW [0, 1] H0 ?_ | refine stRW [0, 1] H2 ?_ | refine st_call (H1) ?_ | refine stMW [] HD ?_ | refine stRW [7] HI ?_ | refine stMW [7, 2] HX ?_ (hargs := .cons (Wk.aggL (.cons (.refl _) (.cons (.refl _) (.cons (.refl _) (.cons (.refl _) (.cons (.refl _) (.cons (.refl _) (.cons (.refl _) (.cons (.refl _) (.cons (.refl _) (.cons (.refl _) (.cons .nil .nil)))))))))))) .nil) | refine stm ?_ | refine Ja ?_ | refine Jf ?_ | refine run_nil ?_ | refine Jz ?_ | refine Jw ?_ | refine aw_block ?_ | refine Jq ?_ | refine Jr ?_ | refine Js ?_ | refine Jy ?_ | refine aw_ret ?_
      all_goals first | exact pm_ret _ (renumD [0, 1, 7, 9]) rfl
    · rw [if_neg (fun h => h1 h.2)] at hs'
      refine .inr ⟨hs'.symm, ?_⟩
      obtain ⟨w, hw⟩ : ∃ w, decide (D = s.id) = w := ⟨_, rfl⟩
      have h1' : v = s.ver → w = false := fun h => by rw [← hw]; exact decide_eq_false fun h2 => h1 ⟨h, h2⟩
      clear hc hu hcm h0 hvv hzz hqq hrr hN hM hD hbits h1 hs' hno hde
      (obtain ⟨ver, id, kn, mv, ms, mg, mq, L, data, bits, P⟩ := s); (dsimp only at *)
      subst hk hv hi hkn
      by_cases h2 : v = uv
      · have h3 := h1' h2
        subst h3
        clear h1'
        refine acalls_of_aw Tryz.func10 rfl rfl ?_
        repeat' first | refine st (h := ok_str_eqlD rfl rfl hw) ?_ | refine st (h := ok_str_neqF rfl rfl) ?_ | refine st ?_ | refine stRW [0, 1] H0 ?_ | refine stRW [0, 1] H2 ?_ | refine st_call (H1) ?_ | refine stMW [] HD ?_ | refine stRW [6] HI ?_ | refine stm ?_ | refine Ja ?_ | refine Jb ?_ | refine Jf ?_ | refine run_nil ?_ | refine Jz ?_ | refine Jw ?_ | refine aw_block ?_ | refine Jq ?_ | refine Jr ?_ | refine Jy ?_ | refine aw_ret ?_
        all_goals first | exact pm_ret _ (renumD [0, 1]) rfl
      · clear h1'
        refine acalls_of_aw Tryz.func10 rfl rfl ?_
        repeat' first | intro h1 | refine st (h := ok_str_eqlD rfl rfl hw) ?_ | refine st (h := ok_str_neqF rfl rfl) ?_ | refine st ?_ | refine stRW [0, 1] H0 ?_ | refine stRW [0, 1] H2 ?_ | refine st_call (H1) ?_ | refine stMW [] HD ?_ | refine stRW [6] HI ?_ | refine stm ?_ | refine Ja ?_ | refine Jb ?_ | refine Jf ?_ | refine Jj ?_ ?_ | refine run_nil ?_ | refine Jz ?_ | refine Jw ?_ | refine aw_block ?_ | refine Jq ?_ | refine Jr ?_ | refine Jt ?_ | refine Jy ?_ | refine aw_ret ?_
        all_goals first | exact pm_ret _ (renumD [0, 1]) rfl
  · have HD := ac_rdecode ud (by omega) 10 h0 N hN v z q r hvv hzz hqq hrr
    rw [if_pos (by decide), if_pos (by decide)] at HD
    rw [if_neg (fun h => by omega)] at hs'
    refine .inr ⟨hs'.symm, ?_⟩
    have HI := ac_rID 0 0 0 0 [] 0 rfl (by decide) 1 (by decide +kernel) ⟨#[]⟩ (if_pos (by decide))
    have hw := rfl (a := true)
    clear hc hu h0 hvv hzz hqq hrr hN hbits hs' hno hde
    (obtain ⟨ver, id, kn, mv, ms, mg, mq, L, data, bits, P⟩ := s); (dsimp only at *)
    subst hk hv hi hkn
    refine acalls_of_aw Tryz.func10 rfl rfl ?_
    repeat' first | refine st (h := ok_str_neqF rfl rfl) ?_ | refine st ?_ | refine stRW [0, 1] H0 ?_ | refine stRW [0, 1] H2 ?_ | refine st_call (H1) ?_ | refine stMW [] HD ?_ | refine stRW [6] HI ?_ | refine stm ?_ | refine Ja ?_ | refine Jb ?_ | refine Jf ?_ | refine run_nil ?_ | refine Jz ?_ | refine Jw ?_ | refine aw_block ?_ | refine Jq ?_ | refine Jr ?_ | refine Jy ?_ | refine aw_ret ?_
    all_goals first | exact pm_ret _ (renumD [0, 1]) rfl
end Go.Proofs.YtjofcjogbopkjaaGreat
namespace Go.Proofs.YtjofcjogbopkjaaGreat
open Go Av
set_option maxRecDepth 20000
/-- Hear of the reference, of a right store and a right update: the store is kept, or its pages are, or it is another one. -/
theorem ac_rHear (s : Sto) (n p : Nat) (hn : s.L.length = n) (hp : s.P.length = p) (hb : n ≤ 1000000 ∧ p ≤ 1000000) (hbits : s.bits < 18446744073709551616) (hd : s.data.size ≤ 100000) (hc : chS s = true) (uk uv : Int) (ui : ByteArray) (up ut : Int) (ub : Nat) (ud : ByteArray) (hu : valU uk uv ui up ut ub ud = true) (s' : Sto) (hs' : heS s ⟨uk, uv, ui, up, ut, ub, ud⟩ = s') (e : Bool) (he : heE s ⟨uk, uv, ui, up, ut, ub, ud⟩ = e) (n' p' : Nat) (hn' : s'.L.length = n') (hp' : s'.P.length = p') :
    (s' = s ∧ ACalls Tryz.prog 10 [.agg #[.int .i64 s.ver, .string s.id, .bool s.kn, .int .i64 s.mv, .int .i64 s.ms, .int .i64 s.mg, .int .i64 s.mq, .slice (some ⟨0, 0, none⟩) n n, .string s.data, .int .u64 s.bits, .slice (some ⟨1, 0, none⟩) p p], .agg #[.int .i64 uk, .int .i64 uv, .string ui, .int .i64 up, .int .i64 ut, .int .u64 ub, .string ud]] [some ⟨List.map Value.string s.L, false, 1⟩, some ⟨List.map Value.string s.P, false, 1⟩] (.tuple #[.agg #[.int .i64 s.ver, .string s.id, .bool s.kn, .int .i64 s.mv, .int .i64 s.ms, .int .i64 s.mg, .int .i64 s.mq, .slice (some ⟨0, 0, none⟩) n n, .string s.data, .int .u64 s.bits, .slice (some ⟨1, 0, none⟩) p p], .bool e, .int .i64 0]) [none, none])
    ∨ (s'.L = s.L ∧ ACalls Tryz.prog 10 [.agg #[.int .i64 s.ver, .string s.id, .bool s.kn, .int .i64 s.mv, .int .i64 s.ms, .int .i64 s.mg, .int .i64 s.mq, .slice (some ⟨0, 0, none⟩) n n, .string s.data, .int .u64 s.bits, .slice (some ⟨1, 0, none⟩) p p], .agg #[.int .i64 uk, .int .i64 uv, .string ui, .int .i64 up, .int .i64 ut, .int .u64 ub, .string ud]] [some ⟨List.map Value.string s.L, false, 1⟩, some ⟨List.map Value.string s.P, false, 1⟩] (.tuple #[.agg #[.int .i64 s'.ver, .string s'.id, .bool s'.kn, .int .i64 s'.mv, .int .i64 s'.ms, .int .i64 s'.mg, .int .i64 s'.mq, .slice (some ⟨0, 0, none⟩) n n, .string s'.data, .int .u64 s'.bits, .slice (some ⟨2, 0, none⟩) p' p'], .bool e, .int .i64 0]) [none, none, some ⟨List.map Value.string s'.P, true, 1⟩])
    ∨ ACalls Tryz.prog 10 [.agg #[.int .i64 s.ver, .string s.id, .bool s.kn, .int .i64 s.mv, .int .i64 s.ms, .int .i64 s.mg, .int .i64 s.mq, .slice (some ⟨0, 0, none⟩) n n, .string s.data, .int .u64 s.bits, .slice (some ⟨1, 0, none⟩) p p], .agg #[.int .i64 uk, .int .i64 uv, .string ui, .int .i64 up, .int .i64 ut, .int .u64 ub, .string ud]] [some ⟨List.map Value.string s.L, false, 1⟩, some ⟨List.map Value.string s.P, false, 1⟩] (.tuple #[.agg #[.int .i64 s'.ver, .string s'.id, .bool s'.kn, .int .i64 s'.mv, .int .i64 s'.ms, .int .i64 s'.mg, .int .i64 s'.mq, .slice (some ⟨2, 0, none⟩) n' n', .string s'.data, .int .u64 s'.bits, .slice (some ⟨3, 0, none⟩) p' p'], .bool e, .int .i64 0]) [none, none, some ⟨List.map Value.string s'.L, true, 1⟩, some ⟨List.map Value.string s'.P, true, 1⟩] := by
  obtain ⟨hv0, hk⟩ := val_kind hu
  unfold heS at hs'
  dsimp only at hs'
  by_cases k1 : uk = 1
  · by_cases hv : s.ver < uv
    · rw [if_pos ⟨k1, hv⟩] at hs'
      obtain rfl : e = false := by
        rw [← he]
        refine decide_eq_false fun k => ?_
        have := congrArg Upd.ver k.2.2
        dsimp only [annU] at this
        omega
      subst hs'
      obtain rfl : n' = 0 := hn'.symm
      obtain rfl : p' = 0 := hp'.symm
      exact .inr (.inr (ac_rHearN s n p hn hp hb hbits hd hc uk uv ui up ut ub ud hu k1 hv))
    · rw [if_neg (fun k => hv k.2), if_neg (fun k => by omega), if_neg (fun k => by omega)] at hs'
      have hz : zeB s = false := by
        rcases chS_spec hc with h | h
        · have := (of_decide_eq_true h).1
          omega
        · exact h.1
      refine .inl ⟨hs'.symm, ac_rHearE s n p hn hp hb hbits hd hc uk uv ui up ut ub ud hu k1 hv e ?_⟩
      rw [← he]
      exact decide_eq_decide.2 ⟨fun k => ⟨k1, hz, k⟩, fun k => k.2.2⟩
  · rw [heE_not1 k1] at he
    subst he
    rw [if_neg (fun k => k1 k.1)] at hs'
    have keep := fun h => ac_rHearK s n p hn hp hb hbits hd hc uk uv ui up ut ub ud hu k1 h
    by_cases hm : uv = s.ver ∧ ui = s.id
    case neg =>
      rw [if_neg (fun k => hm k.2.1), if_neg (fun k => hm k.2.1)] at hs'
      exact .inl ⟨hs'.symm, keep (.inl hm)⟩
    rcases hk with hk | hk | ⟨hk, _⟩ | ⟨hk, h4, h5⟩
    · exact absurd hk k1
    · rw [if_neg (fun k => by omega), if_neg (fun k => by omega)] at hs'
      exact .inl ⟨hs'.symm, keep (.inr (.inl hk))⟩
    · rcases Bool.eq_false_or_eq_true s.kn with hkn | hkn
      · rw [if_neg (fun k => by rw [hkn] at k; exact absurd k.2.2 (by decide)), if_neg (fun k => by omega)] at hs'
        exact .inl ⟨hs'.symm, keep (.inr (.inr (.inl ⟨hk, hkn⟩)))⟩
      · rw [if_pos ⟨hk, hm, hkn⟩] at hs'
        rcases ac_rHearM s n p hn hp hb hbits hd hc uk uv ui up ut ub ud hu hk hm.1 hm.2 hkn s' hs' n' p' hn' hp' with h | h
        · exact .inr (.inr h)
        · exact .inl h
    · rcases Bool.eq_false_or_eq_true s.kn with hkn | hkn
      rotate_left
      · rw [if_neg (fun k => by omega), if_neg (fun k => by rw [hkn] at k; exact absurd k.2.2.1 (by decide))] at hs'
        exact .inl ⟨hs'.symm, keep (.inr (.inr (.inr ⟨hk, hkn⟩)))⟩
      · rw [if_neg (fun k => by omega)] at hs'
        obtain ⟨r1, r2, r3, r4, k, r5, r6, r7, r8, r9, r10, r11⟩ := ch_pg hn hp hc hkn
        by_cases hcond : cpB s = true ∨ up ≠ dnN s.ms s.mg n s.data.size ∨ (p : Int) ≤ ut ∨ s.bits.testBit ut.toNat = true ∨ (ud.size : Int) ≠ pkL s.ms s.mg s.mq (dnN s.ms s.mg n s.data.size) ut
        · have hQ := ac_rHearQ s n p hn hp hb hbits hd hc uk uv ui up ut ub ud hu hk hm.1 hm.2 hkn hcond
          refine .inl ⟨?_, hQ⟩
          rw [← hs']
          split
          · rename_i hx
            unfold puS
            dsimp only
            rw [if_pos]
            have := hcond.resolve_left (by rw [hx.2.2.2]; decide)
            rw [hn, hp]
            exact this
          · rfl
        · have hc0 : cpB s = false := by
            cases h : cpB s with
            | false => rfl
            | true => exact absurd (.inl h) hcond
          have hup : up = dnN s.ms s.mg n s.data.size := Decidable.of_not_not fun h => hcond (.inr (.inl h))
          have hut : ¬ (p : Int) ≤ ut := fun h => hcond (.inr (.inr (.inl h)))
          have hbj : ¬ s.bits.testBit ut.toNat = true := fun h => hcond (.inr (.inr (.inr (.inl h))))
          have hsz : (ud.size : Int) = pkL s.ms s.mg s.mq (dnN s.ms s.mg n s.data.size) ut := Decidable.of_not_not fun h => hcond (.inr (.inr (.inr (.inr h))))
          rw [if_pos ⟨hk, hm, hkn, hc0⟩] at hs'
          have hk2 : k < n := by
            rcases Nat.lt_or_ge k n with h | h
            · exact h
            · exact absurd (r9.2 (by omega)) (by rw [hc0]; decide)
          rw [r5] at hup hsz
          obtain ⟨j, hj⟩ : ∃ j : Nat, ut = j := ⟨ut.toNat, by omega⟩
          have hL : s'.L = s.L := by
            rw [← hs']
            unfold puS
            dsimp only
            split
            · rfl
            · split <;> rfl
          obtain rfl : n = n' := by rw [← hn', hL, hn]
          have hP := ac_rHearP s n p hn hp hb hbits hd hc uk uv ui up ut ub ud hu hk hm.1 hm.2 hkn k r5 hk2 hup j hj (by omega) (by rw [hj, Int.toNat_natCast] at hbj; simpa using hbj) (by rw [← hj]; exact hsz) s' hs' p' hp'
          exact .inr (.inl ⟨hL, hP⟩)
end Go.Proofs.YtjofcjogbopkjaaGreat
