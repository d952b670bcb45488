/- Transfer: zero stores, complete pages. Transfer: the packets of the next page. -/
import Derived.Test.YtjofcjogbopkjaaGreatVL
import Derived.Test.YtjofcjogbopkjaaGreatTP
set_option linter.unusedVariables false
set_option linter.unusedSimpArgs false
namespace Go.Proofs.YtjofcjogbopkjaaGreat
open Go Av
set_option maxRecDepth 20000
theorem ac_nothing (mv ms mg mq : Int) (L : List ByteArray) (n : Nat) (x : Bool) (hx : noM mv ms mg mq n = x) : ACalls Tryz.prog 57 [.agg #[.int .i64 mv, .int .i64 ms, .int .i64 mg, .int .i64 mq, .slice (some ⟨0, 0, none⟩) n n]] [some ⟨List.map Value.string L, false, 1⟩] (.bool x) [none] := by
  unfold noM at hx
  refine acalls_law Tryz.func57 rfl rfl rfl ?_
  repeat' first | intro h1 | refine st ?_ | refine stm ?_ | refine Ja ?_ | refine Jb ?_ | refine Jh ?_ ?_ | refine run_nil ?_ | refine Jz ?_ | refine Jw ?_ | refine aw_ret ?_ | refine pp_ret ?_
  all_goals first
    | rfl
    | (exfalso; omega)
    | (rw [← hx]; refine congrArg Value.bool ?_; first | exact (decide_eq_true (by omega)).symm | exact (decide_eq_false (by omega)).symm | exact decide_eq_decide.2 (by omega))
    | (rw [← hx]; show Value.bool _ = Value.bool _; congr 1; first | exact (decide_eq_true (by omega)).symm | exact (decide_eq_false (by omega)).symm | exact decide_eq_decide.2 (by omega))
    | (exfalso; simp only [Bool.not_eq_true', Bool.not_eq_false', decide_eq_true_eq, decide_eq_false_iff_not, Bool.not_false, Bool.not_true] at *; omega)
    | (simp [retOf]; done)
set_option maxHeartbeats 8000000 in
theorem ac_zero (s : Sto) (n p : Nat) (hn : s.L.length = n) (hp : s.P.length = p) (hb : n ≤ 1000000 ∧ p ≤ 1000000) (x : Bool) (hx : zeB s = x) : ACalls Tryz.prog 29 [.agg #[.int .i64 s.ver, .string s.id, .bool s.kn, .int .i64 s.mv, .int .i64 s.ms, .int .i64 s.mg, .int .i64 s.mq, .slice (some ⟨0, 0, none⟩) n n, .string s.data, .int .u64 s.bits, .slice (some ⟨1, 0, none⟩) p p]] [some ⟨List.map Value.string s.L, false, 1⟩, some ⟨List.map Value.string s.P, false, 1⟩] (.bool x) [none, none] := by
  obtain ⟨ver, id, kn, mv, ms, mg, mq, L, data, bits, P⟩ := s
  dsimp only at *
  unfold zeB at hx
  dsimp only at hx
  rw [hn, hp] at hx
  obtain ⟨y, hy⟩ : ∃ y, noM mv ms mg mq n = y := ⟨_, rfl⟩
  have H := ac_nothing mv ms mg mq L n y hy
  rw [hy] at hx
  clear hy
  obtain ⟨b, hb'⟩ : ∃ b, decide (data = ⟨#[]⟩) = b := ⟨_, rfl⟩
  have hbd : b = true ↔ data.size = 0 := by rw [← hb', decide_eq_true_eq, empty_size]
  obtain ⟨c, hc'⟩ : ∃ b, decide (id = ⟨#[]⟩) = b := ⟨_, rfl⟩
  have hcd : c = true ↔ id.size = 0 := by rw [← hc', decide_eq_true_eq, empty_size]
  by_cases hk : kn = false ∧ y = true
  · obtain ⟨rfl, rfl⟩ := hk
    simp only [true_and] at hx
    cases b <;> cases c <;> simp only [true_iff, false_iff, Bool.false_eq_true, not_false_eq_true] at hbd hcd
    all_goals refine acalls_law Tryz.func29 rfl rfl rfl ?_
    repeat' first | intro h1 | refine st (h := ok_str_eqlD rfl rfl hb') ?_ | refine st (h := ok_str_eqlD rfl rfl hc') ?_ | refine st ?_ | refine stRW [0] H ?_ | refine stm ?_ | refine Ja ?_ | refine Jb ?_ | refine Jh ?_ ?_ | refine run_nil ?_ | refine Jz ?_ | refine Jw ?_ | refine aw_ret ?_ | refine pp_ret ?_
    all_goals first
      | rfl
      | (exfalso; omega)
      | (rw [← hx]; refine congrArg Value.bool ?_; first | exact (decide_eq_true (by omega)).symm | exact (decide_eq_false (by omega)).symm | exact decide_eq_decide.2 (by omega))
      | (rw [← hx]; show Value.bool _ = Value.bool _; congr 1; first | exact (decide_eq_true (by omega)).symm | exact (decide_eq_false (by omega)).symm | exact decide_eq_decide.2 (by omega))
      | (exfalso; simp only [Bool.not_eq_true', Bool.not_eq_false', decide_eq_true_eq, decide_eq_false_iff_not, Bool.not_false, Bool.not_true] at *; omega)
      | (simp [retOf]; done)
  · obtain rfl : x = false := by rw [← hx]; exact decide_eq_false fun h => hk ⟨h.2.2.1, h.2.2.2.1⟩
    clear hx hbd hcd
    have hx := rfl (a := false)
    cases kn <;> cases y <;> simp only [not_true_eq_false, and_self, false_and, and_false, true_and, not_false_eq_true, Bool.true_eq_false, Bool.false_eq_true] at hk
    all_goals refine acalls_law Tryz.func29 rfl rfl rfl ?_
    repeat' first | intro h1 | refine st (h := ok_str_eqlD rfl rfl hc') ?_ | refine st ?_ | refine stRW [0] H ?_ | refine stm ?_ | refine Ja ?_ | refine Jb ?_ | refine Jh ?_ ?_ | refine Jj ?_ ?_ | refine run_nil ?_ | refine Jz ?_ | refine Jw ?_ | refine aw_ret ?_ | refine pp_ret ?_
    all_goals first
      | rfl
      | (exfalso; omega)
      | (rw [← hx]; refine congrArg Value.bool ?_; first | exact (decide_eq_true (by omega)).symm | exact (decide_eq_false (by omega)).symm | exact decide_eq_decide.2 (by omega))
      | (rw [← hx]; show Value.bool _ = Value.bool _; congr 1; first | exact (decide_eq_true (by omega)).symm | exact (decide_eq_false (by omega)).symm | exact decide_eq_decide.2 (by omega))
      | (exfalso; simp only [Bool.not_eq_true', Bool.not_eq_false', decide_eq_true_eq, decide_eq_false_iff_not, Bool.not_false, Bool.not_true] at *; omega)
      | (simp [retOf]; done)
theorem ac_full (n : Nat) (hn : n ≤ 64) : ACalls Tryz.prog 44 [.int .i64 n] [] (.int .u64 ((2 ^ n - 1 : Nat) : Int)) [] := by
  refine acalls_pure Tryz.func44 rfl rfl rfl ?_
  repeat' first | refine st (v := .int .u64 ((2 ^ n - 1 : Nat) : Int)) (h := by (rw [← full_u n hn]; exact ok_shr rfl rfl (by omega))) ?_ | refine st ?_ | refine run_nil ?_ | refine Jz ?_ | refine Jw ?_ | refine aw_ret ?_ | refine pp_ret ?_
  all_goals first
    | rfl
    | (exfalso; omega)
    | (rw [← hx]; refine congrArg Value.bool ?_; first | exact (decide_eq_true (by omega)).symm | exact (decide_eq_false (by omega)).symm | exact decide_eq_decide.2 (by omega))
    | (rw [← hx]; show Value.bool _ = Value.bool _; congr 1; first | exact (decide_eq_true (by omega)).symm | exact (decide_eq_false (by omega)).symm | exact decide_eq_decide.2 (by omega))
    | (exfalso; simp only [Bool.not_eq_true', Bool.not_eq_false', decide_eq_true_eq, decide_eq_false_iff_not, Bool.not_false, Bool.not_true] at *; omega)
    | (simp [retOf]; done)
set_option maxHeartbeats 4000000 in
theorem ac_done (s : Sto) (n p : Nat) (hn : s.L.length = n) (hp : s.P.length = p) (hb : n ≤ 1000000 ∧ p ≤ 1000000) (hs : (s.data.size : Int) = s.ms ∨ 1 ≤ s.mg) (hd : s.data.size ≤ 1000000) (x : Int) (hx : dnN s.ms s.mg n s.data.size = x) (y : Bool) (hy : dnB s.ms s.mg s.data.size = y) : ACalls Tryz.prog 43 [.agg #[.int .i64 s.ver, .string s.id, .bool s.kn, .int .i64 s.mv, .int .i64 s.ms, .int .i64 s.mg, .int .i64 s.mq, .slice (some ⟨0, 0, none⟩) n n, .string s.data, .int .u64 s.bits, .slice (some ⟨1, 0, none⟩) p p]] [some ⟨List.map Value.string s.L, false, 1⟩, some ⟨List.map Value.string s.P, false, 1⟩] (.tuple #[.int .i64 x, .bool y]) [none, none] := by
  obtain ⟨ver, id, kn, mv, ms, mg, mq, L, data, bits, P⟩ := s
  dsimp only at *
  unfold dnN at hx
  unfold dnB at hy
  by_cases h : (data.size : Int) = ms
  · rw [if_pos h] at hx
    obtain rfl : y = true := by rw [← hy]; exact decide_eq_true (.inl h)
    subst hx
    refine acalls_law Tryz.func43 rfl rfl rfl ?_
    repeat' first | refine st ?_ | refine stm ?_ | refine run_nil ?_ | refine Jz ?_ | refine Jw ?_ | refine Js ?_ | refine aw_ret ?_ | refine pp_ret ?_
    all_goals first
      | rfl
      | (exfalso; omega)
      | (rw [← hx]; refine congrArg Value.bool ?_; first | exact (decide_eq_true (by omega)).symm | exact (decide_eq_false (by omega)).symm | exact decide_eq_decide.2 (by omega))
      | (rw [← hx]; show Value.bool _ = Value.bool _; congr 1; first | exact (decide_eq_true (by omega)).symm | exact (decide_eq_false (by omega)).symm | exact decide_eq_decide.2 (by omega))
      | (exfalso; simp only [Bool.not_eq_true', Bool.not_eq_false', decide_eq_true_eq, decide_eq_false_iff_not, Bool.not_false, Bool.not_true] at *; omega)
      | (simp [retOf]; done)
  · rw [if_neg h] at hx
    have hmg : 1 ≤ mg := by omega
    have hq : 0 ≤ (data.size : Int) / mg := Int.ediv_nonneg (by omega) (by omega)
    obtain ⟨r, hr⟩ : ∃ r, (data.size : Int) % mg = r := ⟨_, rfl⟩
    rw [hr] at hy
    refine acalls_law Tryz.func43 rfl rfl rfl ?_
    repeat' first | intro h1 | refine sd (v := .int .i64 r) (h := by (rw [← hr]; exact ok_rem_pos rfl rfl (by omega))) ?_ | refine sd (v := .int .i64 x) (h := by (rw [← hx]; exact ok_quo64 rfl rfl (by omega))) ?_ | refine st ?_ | refine stm ?_ | refine run_nil ?_ | refine sd ?_ | refine sdl ?_ | refine Jk ?_ | refine Jl ?_ | refine Jn ?_ ?_ | refine rund_nil ?_ | refine Jz ?_ | refine Jw ?_ | refine Jx (id := 4) [0,1,3,0,8,31,0,64,192,0,512,1984,4032,8128,16320,32704,8128,73664,262080,524224,1048512,8191,4194303] 23 ?_ | refine Jt ?_ | refine Jy ?_ | refine aw_ret ?_ | refine pp_ret ?_
    all_goals first | (rw [← hy]; refine congrArg (fun b : Bool => Value.tuple #[.int .i64 x, .bool b]) ?_; first | exact (decide_eq_true (by omega)).symm | exact (decide_eq_false (by omega)).symm | exact decide_eq_decide.2 (by omega))
end Go.Proofs.YtjofcjogbopkjaaGreat
namespace Go.Proofs.YtjofcjogbopkjaaGreat
open Go Av
set_option maxRecDepth 20000
structure Oq where
  i : Nat
theorem pk_bd {l pk x A : Int} {p : Nat} (hpk : 1 ≤ pk) (hx : (l + pk - 1) / pk = x) (hp : (p : Int) < x) : 0 ≤ (p : Int) * pk ∧ (p : Int) * pk < l := ⟨Int.mul_nonneg (by omega) (by omega), (parts_lt hpk).1 (by rw [hx]; exact hp)⟩
theorem par_bd {l pk x : Int} (hpk : 1 ≤ pk) (hx : (l + pk - 1) / pk = x) (hl : 1 ≤ l) (hl2 : l ≤ 64 * pk) : 1 ≤ x ∧ x ≤ 64 := by
  have h1 := (parts_lt (sz := l) (i := 0) hpk).2 (by omega)
  have h2 := parts_lt (sz := l) (i := 64) hpk
  rw [hx] at h1 h2
  omega
/-- Page and packet of a right manifest. -/
theorem page_fc {v sz pg pk : Int} {L : List ByteArray} {n i : Nat} (hn : L.length = n) (hc : chkM v sz pg pk L = 0) (hi : i < n) : ∃ K : Nat, pkC sz pg pk i = K ∧ 1 ≤ K ∧ K ≤ 64 ∧ pgE 0 n i = 0 ∧ pkM sz pg pk i 0 = K ∧
    (0 ≤ (i : Int) * pg ∧ (i : Int) * pg < sz ∧ sz ≤ 65536 ∧ (i : Int) * pg + lenM sz pg i ≤ sz) ∧
    ∀ j : Nat, j < K → spE 0 K j = 0 ∧ (i : Int) * pg ≤ spF pg pk i j 0 ∧ spF pg pk i j 0 < spT sz pg pk i j 0 ∧ spT sz pg pk i j 0 ≤ (i : Int) * pg + lenM sz pg i := by
  obtain ⟨q1, q2, q3, q4, q5⟩ := chk_ok hc
  have hbd := siz_bd q1
  obtain ⟨b1, b2, b3, b4, b5⟩ := page_bd (i := i) hc (by omega) (by omega)
  have hp := par_bd (l := lenM sz pg i) (pk := pk) (by omega) rfl (by omega) (by omega)
  obtain ⟨K, hK⟩ : ∃ K : Nat, (lenM sz pg i + pk - 1) / pk = K := ⟨((lenM sz pg i + pk - 1) / pk).toNat, by omega⟩
  rw [hK] at hp
  refine ⟨K, hK, by omega, by omega, by unfold pgE; rw [if_neg (by decide), if_neg (by omega)], by unfold pkM; rw [if_neg (by decide), hK], ⟨b1, b2, by omega, by omega⟩, fun j hj => ?_⟩
  have hb := pk_bd (A := 0) (by omega) hK (by omega : (j : Int) < K)
  refine ⟨by unfold spE; rw [if_neg (by decide), if_neg (by omega)], ?_⟩
  unfold spF spT
  rw [if_neg (by decide), if_neg (by decide)]
  omega
set_option maxHeartbeats 8000000 in
theorem ac_open (s : Sto) (n p : Nat) (hn : s.L.length = n) (hp : s.P.length = p) (hb : n ≤ 1000000 ∧ p ≤ 1000000) (i : Nat) (hc : chkM s.mv s.ms s.mg s.mq s.L = 0) (hi : i < n) (hbits : s.bits < 18446744073709551616) (x : Bool) (hx : opnB s.ms s.mg s.mq i s.bits s.P = x) : ACalls Tryz.prog 78 [.agg #[.int .i64 s.ver, .string s.id, .bool s.kn, .int .i64 s.mv, .int .i64 s.ms, .int .i64 s.mg, .int .i64 s.mq, .slice (some ⟨0, 0, none⟩) n n, .string s.data, .int .u64 s.bits, .slice (some ⟨1, 0, none⟩) p p], .int .i64 i] [some ⟨List.map Value.string s.L, false, 1⟩, some ⟨List.map Value.string s.P, false, 1⟩] (.bool x) [none, none] := by
  obtain ⟨ver, id, kn, mv, ms, mg, mq, L, data, bits, P⟩ := s
  dsimp only at *
  obtain ⟨K, k1, k2, k3, k4, k5, k6, k7⟩ := page_fc hn hc hi
  unfold opnB at hx
  rw [k1, hp] at hx
  have H1 := ac_packets mv ms mg mq i L n hn (by omega) 0 hc 0 k4 K k5
  by_cases e1 : p = K
  · subst e1
    have H2 := ac_full p (by omega)
    obtain ⟨F, hF⟩ : ∃ F, 2 ^ p - 1 = F := ⟨_, rfl⟩
    have hpw := pow_le64 p (by omega)
    have hpw0 : 0 < 2 ^ p := Nat.pow_pos (by decide)
    obtain ⟨z, hz⟩ : ∃ z, bitv .andNot .u64 (bits : Int) ((2 ^ p - 1 : Nat) : Int) = z := ⟨_, rfl⟩
    have hz0 := andNot_full bits p hbits (by omega)
    rw [hz] at hz0
    rw [hF] at H2 hz hx
    by_cases e3 : bits < 2 ^ p
    · obtain rfl := hz0.2 e3
      clear hz0 hpw hpw0
      by_cases e2 : bits = F
      · obtain rfl : x = false := by rw [← hx]; exact decide_eq_false fun h => h.2.2.1 e2
        clear hx k7 e3
        refine acalls_law Tryz.func78 rfl rfl rfl ?_
        repeat' first | intro h1 | refine sd (v := .int .u64 0) (h := by (rw [← hz]; exact ok_andNot rfl rfl)) ?_ | refine st ?_ | refine stRW [0] H1 ?_ | refine sd_call (H2) ?_ | refine stm ?_ | refine run_nil ?_ | refine sd ?_ | refine sdl ?_ | refine Jk ?_ | refine Jl ?_ | refine Jo ?_ ?_ | refine rund_nil ?_ | refine Jz ?_ | refine Jw ?_ | refine Jx (id := 2) [0,1,3,0,15,31,63,127,63,319,1023,2047,4095,8191,16383,8191,40959,131071,262143,524287] 20 ?_ | refine aw_block ?_ | refine Jq ?_ | refine Jr ?_ | refine Jy ?_ | refine aw_ret ?_ | refine pp_ret ?_
        all_goals first
          | rfl
          | (exfalso; omega)
          | (exfalso; simp only [Bool.not_eq_true', Bool.not_eq_false', decide_eq_true_eq, decide_eq_false_iff_not, Bool.not_false, Bool.not_true] at *; omega)
          | (exfalso; simp_all; first | done | omega)
      · refine acalls_law Tryz.func78 rfl rfl rfl ?_
        repeat' first | intro h1 | refine sd (v := .int .u64 0) (h := by (rw [← hz]; exact ok_andNot rfl rfl)) ?_ | refine st ?_ | refine stRW [0] H1 ?_ | refine sd_call (H2) ?_ | refine stm ?_ | refine run_nil ?_ | refine sd ?_ | refine sdl ?_ | refine Jk ?_ | refine Jl ?_ | refine Jo ?_ ?_ | refine rund_nil ?_ | refine Jz ?_ | refine Jw ?_ | refine Jx (id := 2) [0,1,3,0,15,31,63,127,63,319,1023,2047,4095,8191,16383,8191,40959,131071,262143,524287] 20 ?_ | refine aw_block ?_ | refine Jq ?_ | refine Jr ?_ | refine Jy ?_ | refine aw_ret ?_ | refine pp_ret ?_
        all_goals try (exfalso; omega)
        refine aw_loopg
          (S := fun y : Oq => [(1, .int .i64 i), (2, .pointer (some ⟨2, 0, none⟩)), (40, .slice (some ⟨1, 0, none⟩) p p), (41, .int .i64 p), (42, .int .i64 y.i)])
          (B := fun _ : Oq => [some ⟨List.map Value.string L, false, 1⟩, some ⟨List.map Value.string P, false, 1⟩, some ⟨[.int .i64 ver, .string id, .bool kn, .int .i64 mv, .int .i64 ms, .int .i64 mg, .int .i64 mq, .slice (some ⟨0, 0, none⟩) n n, .string data, .int .u64 bits, .slice (some ⟨1, 0, none⟩) p p], true, 1⟩])
          (R := fun y : Oq => y.i ≤ p ∧ ∀ j : Nat, j < y.i → ((P.getD j ⟨#[]⟩).size : Int) = if bits.testBit j then pkL ms mg mq i j else 0)
          (μ := fun y : Oq => p - y.i) ⟨0⟩ (fitsD [0, 1, 2]) ⟨Nat.zero_le _, fun j hj => absurd hj (Nat.not_lt_zero _)⟩ ?_
        rintro ⟨j⟩ ⟨g1, g2⟩
        dsimp only at g1 g2 ⊢
        by_cases hj : j < p
        · obtain ⟨q, hq⟩ : ∃ q, P[j]? = some q := ⟨_, List.getElem?_eq_getElem (by omega)⟩
          have hqd : P.getD j ⟨#[]⟩ = q := by rw [List.getD_eq_getElem?_getD, hq]; rfl
          obtain ⟨t1, t2, t3, t4⟩ := k7 j hj
          obtain ⟨fr, hfr⟩ : ∃ fr, spF mg mq i j 0 = fr := ⟨_, rfl⟩
          obtain ⟨to, hto⟩ : ∃ to, spT ms mg mq i j 0 = to := ⟨_, rfl⟩
          have hpl : pkL ms mg mq i j = to - fr := by unfold pkL; rw [hfr, hto]
          have H3 := ac_span mv ms mg mq i j L n hn (by omega) 0 hc 0 k4 p k5 0 t1 fr to hfr hto
          rw [hfr] at t2 t3
          rw [hto] at t3 t4
          have hw := bit_and bits j hbits (by omega)
          obtain ⟨b, hb'⟩ : ∃ b, bits.testBit j = b := ⟨_, rfl⟩
          rw [hb'] at hw
          by_cases hs : (q.size : Int) = if b then to - fr else 0
          · have hstep : ∀ j' : Nat, j' < j + 1 → ((P.getD j' ⟨#[]⟩).size : Int) = if bits.testBit j' then pkL ms mg mq i j' else 0 := fun j' hj' => by
              rcases Nat.lt_or_ge j' j with h | h
              · exact g2 j' h
              · obtain rfl : j' = j := by omega
                rw [hqd, hb', hpl]; exact hs
            clear hx g2 k7 hfr hto
            cases b
            · rw [if_neg (by decide)] at hs hw
              repeat' first | refine st (h := ok_load_mapE (f := Value.string) j hq rfl rfl rfl (by omega)) ?_ | refine st (v := .int .u64 0) (h := by (rw [← hw]; exact ok_and rfl rfl)) ?_ | refine st ?_ | refine stRW [0] H3 ?_ | refine run_nil ?_ | refine Jz ?_ | refine Jw ?_ | refine aw_block ?_ | refine Jq ?_ | refine Js ?_ | refine Jt ?_ | refine Jy ?_
              all_goals first | exact Exists.intro ⟨j + 1⟩ ⟨fitsD [0, 1, 2], ⟨by dsimp only; omega, hstep⟩, by dsimp only; omega⟩
            · rw [if_pos rfl] at hs hw
              repeat' first | refine st (h := ok_load_mapE (f := Value.string) j hq rfl rfl rfl (by omega)) ?_ | refine st ?_ | refine stRW [0] H3 ?_ | refine run_nil ?_ | refine Jz ?_ | refine Jw ?_ | refine aw_block ?_ | refine Js ?_ | refine Jt ?_ | refine Jy ?_
              all_goals first | exact Exists.intro ⟨j + 1⟩ ⟨fitsD [0, 1, 2], ⟨by dsimp only; omega, hstep⟩, by dsimp only; omega⟩
          · obtain rfl : x = false := by rw [← hx]; exact decide_eq_false fun h => hs (by have := h.2.2.2 j hj; rwa [hqd, hb', hpl] at this)
            clear hx g2 k7 hfr hto
            cases b
            · rw [if_neg (by decide)] at hs hw
              repeat' first | refine st (h := ok_load_mapE (f := Value.string) j hq rfl rfl rfl (by omega)) ?_ | refine st (v := .int .u64 0) (h := by (rw [← hw]; exact ok_and rfl rfl)) ?_ | refine st ?_ | refine stRW [0] H3 ?_ | refine run_nil ?_ | refine Jz ?_ | refine Jw ?_ | refine aw_block ?_ | refine Jq ?_ | refine Js ?_ | refine Jy ?_ | refine aw_ret ?_ | refine pp_ret ?_
              all_goals first
                | rfl
                | (exfalso; omega)
                | (exfalso; simp only [Bool.not_eq_true', Bool.not_eq_false', decide_eq_true_eq, decide_eq_false_iff_not, Bool.not_false, Bool.not_true] at *; omega)
                | (exfalso; simp_all; first | done | omega)
            · rw [if_pos rfl] at hs hw
              repeat' first | refine st (h := ok_load_mapE (f := Value.string) j hq rfl rfl rfl (by omega)) ?_ | refine st ?_ | refine stRW [0] H3 ?_ | refine run_nil ?_ | refine Jz ?_ | refine Jw ?_ | refine aw_block ?_ | refine Js ?_ | refine Jt ?_ | refine Jy ?_ | refine aw_ret ?_ | refine pp_ret ?_
              all_goals first
                | rfl
                | (exfalso; omega)
                | (exfalso; simp only [Bool.not_eq_true', Bool.not_eq_false', decide_eq_true_eq, decide_eq_false_iff_not, Bool.not_false, Bool.not_true] at *; omega)
                | (exfalso; simp_all; first | done | omega)
        · obtain rfl : j = p := by omega
          obtain rfl : x = true := by rw [← hx]; exact decide_eq_true ⟨rfl, e3, e2, g2⟩
          repeat' first | refine st ?_ | refine run_nil ?_ | refine Jz ?_ | refine Jw ?_ | refine Jt ?_ | refine aw_exit ?_ | refine aw_ret ?_ | refine pp_ret ?_
          all_goals first
            | rfl
            | (exfalso; omega)
            | (exfalso; simp only [Bool.not_eq_true', Bool.not_eq_false', decide_eq_true_eq, decide_eq_false_iff_not, Bool.not_false, Bool.not_true] at *; omega)
            | (exfalso; simp_all; first | done | omega)
    · obtain rfl : x = false := by rw [← hx]; exact decide_eq_false fun h => e3 h.2.1
      have hzn : z ≠ 0 := fun h => e3 (hz0.1 h)
      clear hx k7 hz0 hpw hpw0
      refine acalls_law Tryz.func78 rfl rfl rfl ?_
      repeat' first | intro h1 | refine sd (v := .int .u64 z) (h := by (rw [← hz]; exact ok_andNot rfl rfl)) ?_ | refine st ?_ | refine stRW [0] H1 ?_ | refine sd_call (H2) ?_ | refine stm ?_ | refine run_nil ?_ | refine sd ?_ | refine sdl ?_ | refine Jk ?_ | refine Jl ?_ | refine Jo ?_ ?_ | refine rund_nil ?_ | refine Jz ?_ | refine Jw ?_ | refine Jx (id := 2) [0,1,3,0,15,31,63,127,63,319,1023,2047,4095,8191,16383,8191,40959,131071,262143,524287] 20 ?_ | refine Jq ?_ | refine Js ?_ | refine aw_ret ?_ | refine pp_ret ?_
      all_goals first
        | rfl
        | (exfalso; omega)
        | (exfalso; simp only [Bool.not_eq_true', Bool.not_eq_false', decide_eq_true_eq, decide_eq_false_iff_not, Bool.not_false, Bool.not_true] at *; omega)
        | (exfalso; simp_all; first | done | omega)
  · obtain rfl : x = false := by rw [← hx]; exact decide_eq_false fun h => e1 (by omega)
    clear hx k7
    refine acalls_law Tryz.func78 rfl rfl rfl ?_
    repeat' first | intro h1 | refine st ?_ | refine stRW [0] H1 ?_ | refine stm ?_ | refine run_nil ?_ | refine sd ?_ | refine sdl ?_ | refine Jk ?_ | refine Jl ?_ | refine Jo ?_ ?_ | refine rund_nil ?_ | refine Jz ?_ | refine Jw ?_ | refine Jx (id := 2) [0,1,3,0,15,31,63,127,63,319,1023,2047,4095,8191,16383,8191,40959,131071,262143,524287] 20 ?_ | refine Jq ?_ | refine aw_ret ?_ | refine pp_ret ?_
    all_goals first
      | rfl
      | (exfalso; omega)
      | (exfalso; simp only [Bool.not_eq_true', Bool.not_eq_false', decide_eq_true_eq, decide_eq_false_iff_not, Bool.not_false, Bool.not_true] at *; omega)
      | (exfalso; simp_all; first | done | omega)
end Go.Proofs.YtjofcjogbopkjaaGreat
