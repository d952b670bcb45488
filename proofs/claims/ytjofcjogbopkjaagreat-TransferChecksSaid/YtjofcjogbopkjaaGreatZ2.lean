/- Transfer: requests in all cases. -/
import Derived.Test.YtjofcjogbopkjaaGreatVL
import Derived.Test.YtjofcjogbopkjaaGreatZ1
import Derived.Test.YtjofcjogbopkjaaGreatU5
set_option linter.unusedVariables false
set_option linter.unusedSimpArgs false
namespace Go.Proofs.YtjofcjogbopkjaaGreat
open Go Av
set_option maxRecDepth 20000
set_option maxHeartbeats 8000000 in
theorem ac_AskX (s : Sto) (n p : Nat) (hn : s.L.length = n) (hp : s.P.length = p) (hb : n ≤ 1000000 ∧ p ≤ 1000000) (hbits : s.bits < 18446744073709551616) (hd : s.data.size ≤ 1000000) (A : Upd) (hA : asX s = A) (E : Int) (hE : asE s = E) : ACalls Tryz.prog 14 [.agg #[.int .i64 s.ver, .string s.id, .bool s.kn, .int .i64 s.mv, .int .i64 s.ms, .int .i64 s.mg, .int .i64 s.mq, .slice (some ⟨0, 0, none⟩) n n, .string s.data, .int .u64 s.bits, .slice (some ⟨1, 0, none⟩) p p]] [some ⟨List.map Value.string s.L, false, 1⟩, some ⟨List.map Value.string s.P, false, 1⟩] (.tuple #[.agg #[.int .i64 A.kind, .int .i64 A.ver, .string A.id, .int .i64 A.page, .int .i64 A.pkt, .int .u64 A.bits, .string A.data], .int .i64 E]) [none, none] := by
  cases hc : chS s with
  | false =>
    obtain rfl : A = upd0 := by rw [← hA]; exact if_neg (fun h => by rw [hc] at h; exact absurd h.1 (by decide))
    obtain rfl : E = 1 := by rw [← hE]; exact if_neg (by rw [hc]; decide)
    have H := ac_check s n p hn hp hb hbits hd _ hc
    clear hc hA hE hbits
    obtain ⟨ver, id, kn, mv, ms, mg, mq, L, data, bits, P⟩ := s
    dsimp only at *
    refine acalls_law Tryz.func14 rfl rfl rfl ?_
    repeat' first | refine st ?_ | refine stRW [0, 1] H ?_ | refine stm ?_ | refine run_nil ?_ | refine Jz ?_ | refine Jw ?_ | refine aw_block ?_ | refine Jq ?_ | refine aw_ret ?_ | refine pp_ret ?_
    all_goals first
      | rfl
      | (exfalso; omega)
      | (refine congrArg Value.bool ?_; first | exact decide_eq_true (by omega) | exact decide_eq_false (by omega) | exact (decide_eq_true (by omega)).symm | exact (decide_eq_false (by omega)).symm)
      | (show Value.bool _ = Value.bool _; congr 1; first | exact decide_eq_true (by omega) | exact decide_eq_false (by omega) | exact (decide_eq_true (by omega)).symm | exact (decide_eq_false (by omega)).symm)
      | (simp [retOf]; done)
  | true =>
    have hz := ze_ver hc
    by_cases hv : s.ver = 0
    · obtain rfl : A = upd0 := by rw [← hA]; exact if_neg (fun h => h.2 (.inl hv))
      obtain rfl : E = 14 := by rw [← hE]; unfold asE; rw [if_pos hc, if_pos (.inl hv)]
      have H := ac_check s n p hn hp hb hbits hd _ hc
      rw [decide_eq_true hv] at hz
      have H1 := ac_zero s n p hn hp hb _ hz
      clear hc hA hE hbits hz
      obtain ⟨ver, id, kn, mv, ms, mg, mq, L, data, bits, P⟩ := s
      dsimp only at *
      refine acalls_law Tryz.func14 rfl rfl rfl ?_
      repeat' first | refine st ?_ | refine stRW [0, 1] H ?_ | refine stRW [0, 1] H1 ?_ | refine stm ?_ | refine Jb ?_ | refine run_nil ?_ | refine Jz ?_ | refine Jw ?_ | refine aw_block ?_ | refine Jq ?_ | refine Jr ?_ | refine aw_ret ?_ | refine pp_ret ?_
      all_goals first
        | rfl
        | (exfalso; omega)
        | (refine congrArg Value.bool ?_; first | exact decide_eq_true (by omega) | exact decide_eq_false (by omega) | exact (decide_eq_true (by omega)).symm | exact (decide_eq_false (by omega)).symm)
        | (show Value.bool _ = Value.bool _; congr 1; first | exact decide_eq_true (by omega) | exact decide_eq_false (by omega) | exact (decide_eq_true (by omega)).symm | exact (decide_eq_false (by omega)).symm)
        | (simp [retOf]; done)
    · rw [decide_eq_false hv] at hz
      cases hcc : cpB s with
      | true =>
        obtain rfl : A = upd0 := by rw [← hA]; exact if_neg (fun h => h.2 (.inr hcc))
        obtain rfl : E = 14 := by rw [← hE]; unfold asE; rw [if_pos hc, if_pos (.inr hcc)]
        exact ac_Ask0 s n p hn hp hb hbits hd hc hz hcc
      | false =>
        have hno : ¬ (s.ver = 0 ∨ cpB s = true) := fun h => h.elim hv (fun h => by rw [hcc] at h; exact absurd h (by decide))
        obtain rfl : A = askU s := by rw [← hA]; exact if_pos ⟨hc, hno⟩
        obtain rfl : E = 0 := by rw [← hE]; unfold asE; rw [if_pos hc, if_neg hno]
        refine ac_Ask s n p hn hp hb hbits hd hc hz hcc (fun hk => ?_) _ rfl _ rfl
        obtain ⟨r1, r2, r3, r4, k, r5, r6, r7, r8, r9, r10, r11⟩ := ch_pg hn hp hc hk
        have hkn : k < n := by
          rcases Nat.lt_or_ge k n with h | h
          · exact h
          · exact absurd (r9.2 (by omega)) (by rw [hcc]; decide)
        obtain ⟨o1, o2, o3, o4⟩ := of_decide_eq_true (r10 hkn)
        obtain ⟨K, k1, k2, k3, _⟩ := page_fc (i := k) hn r1 hkn
        rw [hp] at o1 o2
        exact ⟨.inr r4, by omega, o2⟩
set_option maxHeartbeats 16000000 in
theorem ac_rAskX (s : Sto) (n p : Nat) (hn : s.L.length = n) (hp : s.P.length = p) (hb : n ≤ 1000000 ∧ p ≤ 1000000) (hbits : s.bits < 18446744073709551616) (hd : s.data.size ≤ 1000000) (A : Upd) (hA : asX s = A) (E : Int) (hE : asE s = E) : ACalls Tryz.prog 15 [.agg #[.int .i64 s.ver, .string s.id, .bool s.kn, .int .i64 s.mv, .int .i64 s.ms, .int .i64 s.mg, .int .i64 s.mq, .slice (some ⟨0, 0, none⟩) n n, .string s.data, .int .u64 s.bits, .slice (some ⟨1, 0, none⟩) p p]] [some ⟨List.map Value.string s.L, false, 1⟩, some ⟨List.map Value.string s.P, false, 1⟩] (.tuple #[.agg #[.int .i64 A.kind, .int .i64 A.ver, .string A.id, .int .i64 A.page, .int .i64 A.pkt, .int .u64 A.bits, .string A.data], .int .i64 E]) [none, none] := by
  cases hc : chS s with
  | false =>
    obtain rfl : A = upd0 := by rw [← hA]; exact if_neg (fun h => by rw [hc] at h; exact absurd h.1 (by decide))
    obtain rfl : E = 1 := by rw [← hE]; exact if_neg (by rw [hc]; decide)
    have H := ac_rCheck s n p hn hp hb hbits hd _ hc
    clear hc hA hE hbits
    obtain ⟨ver, id, kn, mv, ms, mg, mq, L, data, bits, P⟩ := s
    dsimp only at *
    refine acalls_law Tryz.func15 rfl rfl rfl ?_
    repeat' first | refine st ?_ | refine stRW [0, 1] H ?_ | refine stm ?_ | refine run_nil ?_ | refine Jz ?_ | refine Jw ?_ | refine Jq ?_ | refine aw_ret ?_ | refine pp_ret ?_
    all_goals first
      | rfl
      | (exfalso; omega)
      | (refine congrArg Value.bool ?_; first | exact decide_eq_true (by omega) | exact decide_eq_false (by omega) | exact (decide_eq_true (by omega)).symm | exact (decide_eq_false (by omega)).symm)
      | (show Value.bool _ = Value.bool _; congr 1; first | exact decide_eq_true (by omega) | exact decide_eq_false (by omega) | exact (decide_eq_true (by omega)).symm | exact (decide_eq_false (by omega)).symm)
      | (simp [retOf]; done)
  | true =>
    have H := ac_rCheck s n p hn hp hb hbits hd _ hc
    cases hcc : cpB s with
    | true =>
      have HC := ac_rComplete s n p hn hp hb hbits hd true true hc hcc
      obtain rfl : A = upd0 := by rw [← hA]; exact if_neg (fun h => h.2 (.inr hcc))
      obtain rfl : E = 14 := by rw [← hE]; unfold asE; rw [if_pos hc, if_pos (.inr hcc)]
      clear hc hA hE hbits hcc
      obtain ⟨ver, id, kn, mv, ms, mg, mq, L, data, bits, P⟩ := s
      dsimp only at *
      refine acalls_law Tryz.func15 rfl rfl rfl ?_
      repeat' first | intro h1 | refine st ?_ | refine stRW [0, 1] H ?_ | refine stRW [0, 1] HC ?_ | refine stm ?_ | refine Ja ?_ | refine Jb ?_ | refine Ji ?_ ?_ | refine run_nil ?_ | refine Jz ?_ | refine Jw ?_ | refine Jq ?_ | refine Jr ?_ | refine Jy ?_ | refine aw_ret ?_ | refine pp_ret ?_
      all_goals first
        | rfl
        | (exfalso; omega)
        | (refine congrArg Value.bool ?_; first | exact decide_eq_true (by omega) | exact decide_eq_false (by omega) | exact (decide_eq_true (by omega)).symm | exact (decide_eq_false (by omega)).symm)
        | (show Value.bool _ = Value.bool _; congr 1; first | exact decide_eq_true (by omega) | exact decide_eq_false (by omega) | exact (decide_eq_true (by omega)).symm | exact (decide_eq_false (by omega)).symm)
        | (simp [retOf]; done)
    | false =>
      have HC := ac_rComplete s n p hn hp hb hbits hd true false hc hcc
      by_cases hv : s.ver = 0
      · obtain rfl : A = upd0 := by rw [← hA]; exact if_neg (fun h => h.2 (.inl hv))
        obtain rfl : E = 14 := by rw [← hE]; unfold asE; rw [if_pos hc, if_pos (.inl hv)]
        clear hc hA hE hbits hcc
        obtain ⟨ver, id, kn, mv, ms, mg, mq, L, data, bits, P⟩ := s
        dsimp only at *
        refine acalls_law Tryz.func15 rfl rfl rfl ?_
        repeat' first | intro h1 | refine st ?_ | refine stRW [0, 1] H ?_ | refine stRW [0, 1] HC ?_ | refine stm ?_ | refine Ja ?_ | refine Jb ?_ | refine Ji ?_ ?_ | refine run_nil ?_ | refine Jz ?_ | refine Jw ?_ | refine Jq ?_ | refine Jr ?_ | refine Jv ?_ ?_ | refine Jy ?_ | refine aw_ret ?_ | refine pp_ret ?_
        all_goals first
          | rfl
          | (exfalso; omega)
          | (refine congrArg Value.bool ?_; first | exact decide_eq_true (by omega) | exact decide_eq_false (by omega) | exact (decide_eq_true (by omega)).symm | exact (decide_eq_false (by omega)).symm)
          | (show Value.bool _ = Value.bool _; congr 1; first | exact decide_eq_true (by omega) | exact decide_eq_false (by omega) | exact (decide_eq_true (by omega)).symm | exact (decide_eq_false (by omega)).symm)
          | (simp [retOf]; done)
      · have hno : ¬ (s.ver = 0 ∨ cpB s = true) := fun h => h.elim hv (fun h => by rw [hcc] at h; exact absurd h (by decide))
        have hA2 : askU s = A := by rw [← hA]; exact (if_pos ⟨hc, hno⟩).symm
        obtain rfl : E = 0 := by rw [← hE]; unfold asE; rw [if_pos hc, if_neg hno]
        clear hA hE
        cases hk : s.kn with
        | false =>
          obtain rfl : A = ⟨2, s.ver, s.id, -1, 0, 0, ⟨#[]⟩⟩ := by rw [← hA2]; unfold askU; rw [if_neg (by rw [hk]; decide), if_neg (by rw [hk]; decide)]
          clear hc hbits hA2 hcc hno
          obtain ⟨ver, id, kn, mv, ms, mg, mq, L, data, bits, P⟩ := s
          dsimp only at *
          subst hk
          refine acalls_law Tryz.func15 rfl rfl rfl ?_
          repeat' first | refine st ?_ | refine stRW [0, 1] H ?_ | refine stRW [0, 1] HC ?_ | refine stm ?_ | refine Ja ?_ | refine Jf ?_ | refine run_nil ?_ | refine Jz ?_ | refine Jw ?_ | refine Jr ?_ | refine Jy ?_ | refine aw_ret ?_ | refine pp_ret ?_
          all_goals first
            | rfl
            | (exfalso; omega)
            | (refine congrArg Value.bool ?_; first | exact decide_eq_true (by omega) | exact decide_eq_false (by omega) | exact (decide_eq_true (by omega)).symm | exact (decide_eq_false (by omega)).symm)
            | (show Value.bool _ = Value.bool _; congr 1; first | exact decide_eq_true (by omega) | exact decide_eq_false (by omega) | exact (decide_eq_true (by omega)).symm | exact (decide_eq_false (by omega)).symm)
            | (simp [retOf]; done)
        | true =>
          obtain ⟨r1, r2, r3, r4, k, r5, r6, r7, r8, r9, r10, r11⟩ := ch_pg hn hp hc hk
          have hkn : k < n := by
            rcases Nat.lt_or_ge k n with h | h
            · exact h
            · exact absurd (r9.2 (by omega)) (by rw [hcc]; decide)
          obtain ⟨o1, o2, o3, o4⟩ := of_decide_eq_true (r10 hkn)
          obtain ⟨K, k1, k2, k3, _⟩ := page_fc (i := k) hn r1 hkn
          rw [hp] at o1 o2
          have hp64 : p ≤ 64 := by omega
          have H1 := ac_rpages s n p hn hp hb r1 k r6
          obtain ⟨T, hT⟩ : ∃ T, 2 ^ p - 1 - s.bits = T := ⟨_, rfl⟩
          obtain rfl : A = ⟨2, s.ver, s.id, k, 0, T, ⟨#[]⟩⟩ := by rw [← hA2]; unfold askU; rw [if_pos hk, if_pos hk, hn, r5, hp, hT]
          clear hc hA2 hcc hno r1 r2 r5 r6 r9 r10 r11 k1 o1 o3 o4
          obtain ⟨ver, id, kn, mv, ms, mg, mq, L, data, bits, P⟩ := s
          dsimp only at *
          subst hk
          refine acalls_law Tryz.func15 rfl rfl rfl ?_
          repeat' first | refine st ?_ | refine stRW [0, 1] H ?_ | refine stRW [0, 1] HC ?_ | refine stRW [0, 1] H1 ?_ | refine stm ?_ | refine Ja ?_ | refine Jf ?_ | refine run_nil ?_ | refine Jz ?_ | refine Jw ?_ | refine aw_block ?_ | refine Jq ?_ | refine Jr ?_ | refine Jy ?_
          all_goals try (exfalso; omega)
          refine aw_loopg
            (S := fun y : Sq => [(1, .pointer (some ⟨2, 0, none⟩)), (2, .pointer (some ⟨3, 0, none⟩)), (4, .pointer (some ⟨4, 0, none⟩)), (5, .int .i64 y.i)])
            (B := fun y : Sq => [some ⟨List.map Value.string L, false, 1⟩, some ⟨List.map Value.string P, false, 1⟩, some ⟨[.int .i64 ver, .string id, .bool true, .int .i64 mv, .int .i64 ms, .int .i64 mg, .int .i64 mq, .slice (some ⟨0, 0, none⟩) n n, .string data, .int .u64 bits, .slice (some ⟨1, 0, none⟩) p p], true, 1⟩, some ⟨[.int .i64 0, .int .i64 0, .string ⟨#[]⟩, .int .i64 0, .int .i64 0, .int .u64 0, .string ⟨#[]⟩], true, 1⟩, some ⟨[.int .i64 2, .int .i64 ver, .string id, .int .i64 k, .int .i64 0, .int .u64 y.t, .string ⟨#[]⟩], true, 1⟩])
            (R := fun y : Sq => y.i ≤ p ∧ y.t = 2 ^ y.i - 1 - bits % 2 ^ y.i)
            (μ := fun y : Sq => p - y.i) ⟨0, 0⟩ (fitsD [0, 1, 2, 3, 4]) ⟨Nat.zero_le _, by dsimp only; omega⟩ ?_
          rintro ⟨j, t⟩ ⟨g1, g2⟩
          dsimp only at g1 g2 ⊢
          by_cases hj : j < p
          · have hw := bit_and bits j hbits (by omega)
            have hpw : 2 ^ j ≤ 2 ^ 63 := Nat.pow_le_pow_right (by decide) (by omega)
            have hp0 : 0 < 2 ^ j := Nat.pow_pos (by decide)
            by_cases hbt : bits.testBit j = true
            · rw [if_pos hbt] at hw
              have hst := lack_keep bits j hbt
              rw [← g2] at hst
              clear g2 HC H H1
              repeat' first | refine st ?_ | refine run_nil ?_ | refine Jz ?_ | refine Jw ?_ | refine aw_block ?_ | refine Js ?_ | refine Jt ?_ | refine Jy ?_
              all_goals first | exact Exists.intro ⟨j + 1, t⟩ ⟨fitsD [0, 1, 2, 3, 4], ⟨hj, hst⟩, by dsimp only; omega⟩
            · rw [if_neg hbt] at hw
              have hst := lack_step bits j (by simpa using hbt)
              rw [← g2] at hst
              have hor := or_u t (2 ^ j) (by omega) (by omega)
              have hsh := shl_one j (by omega)
              obtain ⟨t2, ht2⟩ : ∃ t2, t ||| 2 ^ j = t2 := ⟨_, rfl⟩
              rw [ht2] at hor hst
              clear g2 HC H H1 ht2
              repeat' first | refine st (v := .int .u64 0) (h := by (rw [← hw]; exact ok_and rfl rfl)) ?_ | refine sd (h := ok_shlD rfl rfl (by omega) hsh) ?_ | refine sd (h := ok_orD rfl rfl hor) ?_ | refine st ?_ | refine run_nil ?_ | refine sd ?_ | refine sdl ?_ | refine sdb ?_ | refine rund_nil ?_ | refine Jz ?_ | refine Jw ?_ | refine Jx (id := 12) [0,1,0,4,15,31,63] 6 ?_ | refine aw_block ?_ | refine Jq ?_ | refine Js ?_ | refine Jy ?_
              all_goals first | exact Exists.intro ⟨j + 1, t2⟩ ⟨fitsD [0, 1, 2, 3, 4], ⟨hj, hst⟩, by dsimp only; omega⟩
          · obtain rfl : j = p := by omega
            rw [ask_bits o2, hT] at g2
            subst g2
            clear hT o2
            repeat' first | refine st ?_ | refine stm ?_ | refine run_nil ?_ | refine Jz ?_ | refine Jw ?_ | refine Jt ?_ | refine aw_exit ?_ | refine aw_ret ?_ | refine pp_ret ?_
            all_goals first
              | rfl
              | (exfalso; omega)
              | (refine congrArg Value.bool ?_; first | exact decide_eq_true (by omega) | exact decide_eq_false (by omega) | exact (decide_eq_true (by omega)).symm | exact (decide_eq_false (by omega)).symm)
              | (show Value.bool _ = Value.bool _; congr 1; first | exact decide_eq_true (by omega) | exact decide_eq_false (by omega) | exact (decide_eq_true (by omega)).symm | exact (decide_eq_false (by omega)).symm)
              | (simp [retOf]; done)
end Go.Proofs.YtjofcjogbopkjaaGreat
