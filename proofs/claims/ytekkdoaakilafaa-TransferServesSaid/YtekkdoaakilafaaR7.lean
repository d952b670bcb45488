/- Transfer, the reference: Serve. -/
import Derived.Test.YtekkdoaakilafaaVN
import Derived.Test.YtekkdoaakilafaaR2
import Derived.Test.YtekkdoaakilafaaR5
import Derived.Test.YtekkdoaakilafaaR6
set_option linter.unusedVariables false
set_option linter.unusedSimpArgs false
namespace Go.Proofs.Ytekkdoaakilafaa
open Go Av
set_option maxRecDepth 20000
set_option maxHeartbeats 8000000 in
/-- Serve, of what is wrong. -/
theorem ac_rServeX (s : Sto) (n p : Nat) (hn : s.L.length = n) (hp : s.P.length = p) (hb : n ≤ 1000000 ∧ p ≤ 1000000) (hbits : s.bits < 18446744073709551616) (hd : s.data.size ≤ 100000) (uk uv : Int) (ui : ByteArray) (up ut : Int) (ub : Nat) (ud : ByteArray) (c v : Bool) (hc : chS s = c) (hu : valU uk uv ui up ut ub ud = v) (h : ¬ (c = true ∧ v = true ∧ uk = 2)) : ACalls Try.prog 29 [.agg #[.int .i64 s.ver, .string s.id, .bool s.kn, .int .i64 s.mv, .int .i64 s.ms, .int .i64 s.mg, .int .i64 s.mq, .slice (some ⟨0, 0, none⟩) n n, .string s.data, .int .u64 s.bits, .slice (some ⟨1, 0, none⟩) p p], .agg #[.int .i64 uk, .int .i64 uv, .string ui, .int .i64 up, .int .i64 ut, .int .u64 ub, .string ud]] [some ⟨List.map Value.string s.L, false, 1⟩, some ⟨List.map Value.string s.P, false, 1⟩] (.tuple #[.slice none 0 0, .int .i64 1]) [none, none] := by
  have H0 := ac_rCheck s n p hn hp hb hbits (by omega) c hc
  have H1 := ac_rValid uk uv ui up ut ub ud v hu
  clear hc hu hbits
  obtain ⟨ver, id, kn, mv, ms, mg, mq, L, data, bits, P⟩ := s
  dsimp only at *
  cases c
  · clear h
    refine acalls_law Try.func29 rfl rfl rfl ?_
    repeat' first | intro h1 | refine st (h := ok_not_dec2 rfl) ?_ | refine sd (h := ok_not_dec2 rfl) ?_ | refine st ?_ | refine stRW [0, 1] H0 ?_ | refine sdRW [0, 1] H0 ?_ | refine st_call (H1) ?_ | refine sd_call (H1) ?_ | refine Kc ?_ | refine Ka ?_ | refine Kb ?_ ?_ | refine Jx (id := 9) [0,1,0,4,15] 5 ?_ | refine Jx (id := 16) [0,0,2,0,8,0,32,0,0,256,0,0,3840,8190,16382,32767,65535] 15 ?_ | fail
    all_goals first
      | rfl
      | (exfalso; omega)
      | (simp [retOf]; done)
      | (exfalso; simp_all; done)
  · cases v
    · clear h
      refine acalls_law Try.func29 rfl rfl rfl ?_
      repeat' first | intro h1 | refine st (h := ok_not_dec2 rfl) ?_ | refine sd (h := ok_not_dec2 rfl) ?_ | refine st ?_ | refine stRW [0, 1] H0 ?_ | refine sdRW [0, 1] H0 ?_ | refine st_call (H1) ?_ | refine sd_call (H1) ?_ | refine Kc ?_ | refine Ka ?_ | refine Kb ?_ ?_ | refine Jx (id := 9) [0,1,0,4,15] 5 ?_ | refine Jx (id := 16) [0,0,2,0,8,0,32,0,0,256,0,0,3840,8190,16382,32767,65535] 15 ?_ | fail
      all_goals first
        | rfl
        | (exfalso; omega)
        | (simp [retOf]; done)
        | (exfalso; simp_all; done)
    · have hk : uk ≠ 2 := fun e => h ⟨rfl, rfl, e⟩
      clear h
      refine acalls_law Try.func29 rfl rfl rfl ?_
      repeat' first | intro h1 | refine st (h := ok_not_dec2 rfl) ?_ | refine sd (h := ok_not_dec2 rfl) ?_ | refine st ?_ | refine stRW [0, 1] H0 ?_ | refine sdRW [0, 1] H0 ?_ | refine st_call (H1) ?_ | refine sd_call (H1) ?_ | refine Kc ?_ | refine Ka ?_ | refine Kb ?_ ?_ | refine Jx (id := 9) [0,1,0,4,15] 5 ?_ | refine Jx (id := 16) [0,0,2,0,8,0,32,0,0,256,0,0,3840,8190,16382,32767,65535] 15 ?_ | fail
      all_goals first
        | rfl
        | (exfalso; omega)
        | (simp [retOf]; done)
        | (exfalso; simp_all; done)
set_option maxHeartbeats 8000000 in
/-- Serve, of another version, or without a manifest. -/
theorem ac_rServeN (s : Sto) (n p : Nat) (hn : s.L.length = n) (hp : s.P.length = p) (hb : n ≤ 1000000 ∧ p ≤ 1000000) (hbits : s.bits < 18446744073709551616) (hd : s.data.size ≤ 100000) (uv : Int) (ui : ByteArray) (up : Int) (ub : Nat) (hc : chS s = true) (hu : valU 2 uv ui up 0 ub ⟨#[]⟩ = true) (h : ¬ (s.kn = true ∧ uv = s.ver ∧ ui = s.id)) : ACalls Try.prog 29 [.agg #[.int .i64 s.ver, .string s.id, .bool s.kn, .int .i64 s.mv, .int .i64 s.ms, .int .i64 s.mg, .int .i64 s.mq, .slice (some ⟨0, 0, none⟩) n n, .string s.data, .int .u64 s.bits, .slice (some ⟨1, 0, none⟩) p p], .agg #[.int .i64 2, .int .i64 uv, .string ui, .int .i64 up, .int .i64 0, .int .u64 ub, .string ⟨#[]⟩]] [some ⟨List.map Value.string s.L, false, 1⟩, some ⟨List.map Value.string s.P, false, 1⟩] (.tuple #[.slice none 0 0, .int .i64 0]) [none, none] := by
  have H0 := ac_rCheck s n p hn hp hb hbits (by omega) true hc
  have H1 := ac_rValid 2 uv ui up 0 ub ⟨#[]⟩ true hu
  clear hc hu hbits
  obtain ⟨ver, id, kn, mv, ms, mg, mq, L, data, bits, P⟩ := s
  dsimp only at *
  cases kn
  · clear h
    refine acalls_law Try.func29 rfl rfl rfl ?_
    repeat' first | intro h1 | refine st (h := ok_not_dec2 rfl) ?_ | refine sd (h := ok_not_dec2 rfl) ?_ | refine st ?_ | refine stRW [0, 1] H0 ?_ | refine sdRW [0, 1] H0 ?_ | refine st_call (H1) ?_ | refine sd_call (H1) ?_ | refine Kc ?_ | refine Ka ?_ | refine Kb ?_ ?_ | refine Jx (id := 9) [0,1,0,4,15] 5 ?_ | refine Jx (id := 16) [0,0,2,0,8,0,32,0,0,256,0,0,3840,8190,16382,32767,65535] 15 ?_ | fail
    all_goals first
      | rfl
      | (exfalso; omega)
      | (simp [retOf]; done)
      | (exfalso; simp_all; done)
  · by_cases hv : uv = ver
    · have hi : ui ≠ id := fun e => h ⟨rfl, hv, e⟩
      have hw : decide (ui = id) = false := decide_eq_false hi
      clear h hi
      refine acalls_law Try.func29 rfl rfl rfl ?_
      repeat' first | intro h1 | refine st (h := ok_not_dec2 rfl) ?_ | refine sd (h := ok_not_dec2 rfl) ?_ | refine st (h := ok_str_eqlD rfl rfl hw) ?_ | refine st (h := ok_str_neqD rfl rfl hw) ?_ | refine sd (h := ok_str_eqlD rfl rfl hw) ?_ | refine sd (h := ok_str_neqD rfl rfl hw) ?_ | refine st ?_ | refine stRW [0, 1] H0 ?_ | refine sdRW [0, 1] H0 ?_ | refine st_call (H1) ?_ | refine sd_call (H1) ?_ | refine Kc ?_ | refine Ka ?_ | refine Kb ?_ ?_ | refine Jx (id := 9) [0,1,0,4,15] 5 ?_ | refine Jx (id := 16) [0,0,2,0,8,0,32,0,0,256,0,0,3840,8190,16382,32767,65535] 15 ?_ | fail
      all_goals first
        | rfl
        | (exfalso; omega)
        | (simp [retOf]; done)
        | (exfalso; simp_all; done)
    · clear h
      refine acalls_law Try.func29 rfl rfl rfl ?_
      repeat' first | intro h1 | refine st (h := ok_not_dec2 rfl) ?_ | refine sd (h := ok_not_dec2 rfl) ?_ | refine st ?_ | refine stRW [0, 1] H0 ?_ | refine sdRW [0, 1] H0 ?_ | refine st_call (H1) ?_ | refine sd_call (H1) ?_ | refine Kc ?_ | refine Ka ?_ | refine Kb ?_ ?_ | refine Jx (id := 9) [0,1,0,4,15] 5 ?_ | refine Jx (id := 16) [0,0,2,0,8,0,32,0,0,256,0,0,3840,8190,16382,32767,65535] 15 ?_ | fail
      all_goals first
        | rfl
        | (exfalso; omega)
        | (simp [retOf]; done)
        | (exfalso; simp_all; done)
set_option maxHeartbeats 8000000 in
theorem ac_rServeE (s : Sto) (n p : Nat) (hn : s.L.length = n) (hp : s.P.length = p) (hb : n ≤ 1000000 ∧ p ≤ 1000000) (hbits : s.bits < 18446744073709551616) (hd : s.data.size ≤ 100000) (hc : chS s = true) (hkn : s.kn = true) (uv : Int) (ui : ByteArray) (up : Int) (ub : Nat) (hu : valU 2 uv ui up 0 ub ⟨#[]⟩ = true) (hv : uv = s.ver) (hi : ui = s.id) (h0 : 0 ≤ up) (k : Nat) (hk : dnN s.ms s.mg n s.data.size = k) (hik : (k : Int) ≤ up) : ACalls Try.prog 29 [.agg #[.int .i64 s.ver, .string s.id, .bool s.kn, .int .i64 s.mv, .int .i64 s.ms, .int .i64 s.mg, .int .i64 s.mq, .slice (some ⟨0, 0, none⟩) n n, .string s.data, .int .u64 s.bits, .slice (some ⟨1, 0, none⟩) p p], .agg #[.int .i64 2, .int .i64 uv, .string ui, .int .i64 up, .int .i64 0, .int .u64 ub, .string ⟨#[]⟩]] [some ⟨List.map Value.string s.L, false, 1⟩, some ⟨List.map Value.string s.P, false, 1⟩] (.tuple #[.slice none 0 0, .int .i64 0]) [none, none] := by
  have H0 := ac_rCheck s n p hn hp hb hbits (by omega) true hc
  have H1 := ac_rValid 2 uv ui up 0 ub ⟨#[]⟩ true hu
  have hkb : knB s = true := by
    rcases chS_spec hc with h | ⟨_, _, h, _⟩
    · exact absurd (of_decide_eq_true h).2.2.1 (by rw [hkn]; decide)
    · exact h hkn
  obtain ⟨r1, r2, r3, r4, k', r5, r6, r7, r8, r9, r10, r11, r12, r13⟩ := knB_spec hn hp hkb
  obtain rfl : k = k' := by omega
  have HD := ac_rpages s n p hn hp hb r1 k (by unfold pgX; rw [r4, if_pos rfl, hk])
  clear hc hu hkb r1 r2 r3 r4 r5 r7 r8 r9 hbits
  obtain ⟨ver, id, kn, mv, ms, mg, mq, L, data, bits, P⟩ := s
  dsimp only at *
  subst hv hi hkn
  refine acalls_law Try.func29 rfl rfl rfl ?_
  repeat' first | intro h1 | refine st (h := ok_not_dec2 rfl) ?_ | refine sd (h := ok_not_dec2 rfl) ?_ | refine st (h := ok_str_eqlT rfl rfl) ?_ | refine st (h := ok_str_neqF rfl rfl) ?_ | refine sd (h := ok_str_eqlT rfl rfl) ?_ | refine sd (h := ok_str_neqF rfl rfl) ?_ | refine st ?_ | refine stRW [0, 1] H0 ?_ | refine stRW [0, 1] HD ?_ | refine sdRW [0, 1] H0 ?_ | refine sdRW [0, 1] HD ?_ | refine st_call (H1) ?_ | refine sd_call (H1) ?_ | refine Kc ?_ | refine Ka ?_ | refine Kb ?_ ?_ | refine Jx (id := 9) [0,1,0,4,15] 5 ?_ | refine Jx (id := 16) [0,0,2,0,8,0,32,0,0,256,0,0,3840,8190,16382,32767,65535] 15 ?_ | fail
  all_goals first
    | rfl
    | (exfalso; omega)
    | (simp [retOf]; done)
    | (exfalso; simp_all; done)
set_option maxHeartbeats 8000000 in
theorem ac_rServeM (s : Sto) (n p : Nat) (hn : s.L.length = n) (hp : s.P.length = p) (hb : n ≤ 1000000 ∧ p ≤ 1000000) (hbits : s.bits < 18446744073709551616) (hd : s.data.size ≤ 100000) (hc : chS s = true) (hkn : s.kn = true) (uv : Int) (ui : ByteArray) (up : Int) (ub : Nat) (hu : valU 2 uv ui up 0 ub ⟨#[]⟩ = true) (hv : uv = s.ver) (hi : ui = s.id) (hup : up = -1) : ACalls Try.prog 29 [.agg #[.int .i64 s.ver, .string s.id, .bool s.kn, .int .i64 s.mv, .int .i64 s.ms, .int .i64 s.mg, .int .i64 s.mq, .slice (some ⟨0, 0, none⟩) n n, .string s.data, .int .u64 s.bits, .slice (some ⟨1, 0, none⟩) p p], .agg #[.int .i64 2, .int .i64 uv, .string ui, .int .i64 up, .int .i64 0, .int .u64 ub, .string ⟨#[]⟩]] [some ⟨List.map Value.string s.L, false, 1⟩, some ⟨List.map Value.string s.P, false, 1⟩] (.tuple #[.slice (some ⟨2, 0, none⟩) 1 1, .int .i64 0]) [none, none, some ⟨(srvL s up ub).flatMap updC, true, 7⟩] := by
  have H0 := ac_rCheck s n p hn hp hb hbits (by omega) true hc
  have H1 := ac_rValid 2 uv ui up 0 ub ⟨#[]⟩ true hu
  have hkb : knB s = true := by
    rcases chS_spec hc with h | ⟨_, _, h, _⟩
    · exact absurd (of_decide_eq_true h).2.2.1 (by rw [hkn]; decide)
    · exact h hkn
  obtain ⟨r1, _⟩ := knB_spec hn hp hkb
  have H2 := ac_rEncode s.mv s.ms s.mg s.mq s.L n hn (by omega) 0 r1 _ (if_neg (by decide))
  obtain ⟨E, hE⟩ : ∃ E, encS s.mv s.ms s.mg s.mq s.L = E := ⟨_, rfl⟩
  rw [hE] at H2
  unfold srvL
  rw [if_pos (by omega), hE]
  clear hc hu hkb r1 hE hbits
  obtain ⟨ver, id, kn, mv, ms, mg, mq, L, data, bits, P⟩ := s
  dsimp only at *
  subst hv hi hkn hup
  refine acalls_of_aw Try.func29 rfl rfl ?_
  repeat' first | intro h1 | refine st (h := ok_not_dec2 rfl) ?_ | refine sd (h := ok_not_dec2 rfl) ?_ | refine st (h := ok_str_eqlT rfl rfl) ?_ | refine st (h := ok_str_neqF rfl rfl) ?_ | refine sd (h := ok_str_eqlT rfl rfl) ?_ | refine sd (h := ok_str_neqF rfl rfl) ?_ | refine st ?_ | refine stRW [0, 1] H0 ?_ | refine stRW [0] H2 ?_ | refine sdRW [0, 1] H0 ?_ | refine sdRW [0] H2 ?_ | refine st_call (H1) ?_ | refine sd_call (H1) ?_ | refine Kc ?_ | refine Ka ?_ | refine Kb ?_ ?_ | refine Jx (id := 9) [0,1,0,4,15] 5 ?_ | refine Jx (id := 16) [0,0,2,0,8,0,32,0,0,256,0,0,3840,8190,16382,32767,65535] 15 ?_ | fail
  all_goals first | (exfalso; omega) | exact pm_ret _ (renumD [0, 1, 4]) rfl
def rpL (ver : Int) (id : ByteArray) (ms mg mq : Int) (data : ByteArray) (up : Int) (ub : Nat) (j : Nat) : List Upd := (preL ms mg mq data up ub j).map (ansU ver id)
theorem rpL_step (ver : Int) (id : ByteArray) (ms mg mq : Int) (data : ByteArray) (up : Int) (ub j : Nat) : rpL ver id ms mg mq data up ub (j + 1) = rpL ver id ms mg mq data up ub j ++ (if ub.testBit j then [ansU ver id (preU ms mg mq data up j)] else []) := by
  unfold rpL
  rw [preL_step, List.map_append]
  congr 1
  split <;> rfl
theorem rpL_len (ver : Int) (id : ByteArray) (ms mg mq : Int) (data : ByteArray) (up : Int) (ub j : Nat) : (rpL ver id ms mg mq data up ub j).length ≤ j := by
  unfold rpL
  rw [List.length_map]
  exact preL_len ms mg mq data up ub j
set_option maxHeartbeats 16000000 in
theorem ac_rServeP (s : Sto) (n p : Nat) (hn : s.L.length = n) (hp : s.P.length = p) (hb : n ≤ 1000000 ∧ p ≤ 1000000) (hbits : s.bits < 18446744073709551616) (hd : s.data.size ≤ 100000) (hc : chS s = true) (hkn : s.kn = true) (uv : Int) (ui : ByteArray) (up : Int) (ub : Nat) (hub : ub < 18446744073709551616) (hu : valU 2 uv ui up 0 ub ⟨#[]⟩ = true) (hv : uv = s.ver) (hi : ui = s.id) (i : Nat) (hup : up = i) (k : Nat) (hk : dnN s.ms s.mg n s.data.size = k) (hik : i < k) (m : Nat) (hm : (srvL s up ub).length = m) : ACalls Try.prog 29 [.agg #[.int .i64 s.ver, .string s.id, .bool s.kn, .int .i64 s.mv, .int .i64 s.ms, .int .i64 s.mg, .int .i64 s.mq, .slice (some ⟨0, 0, none⟩) n n, .string s.data, .int .u64 s.bits, .slice (some ⟨1, 0, none⟩) p p], .agg #[.int .i64 2, .int .i64 uv, .string ui, .int .i64 up, .int .i64 0, .int .u64 ub, .string ⟨#[]⟩]] [some ⟨List.map Value.string s.L, false, 1⟩, some ⟨List.map Value.string s.P, false, 1⟩] (.tuple #[.slice (some ⟨2, 0, none⟩) m m, .int .i64 0]) [none, none, some ⟨(srvL s up ub).flatMap updC, true, 7⟩] := by
  have H0 := ac_rCheck s n p hn hp hb hbits (by omega) true hc
  have H1 := ac_rValid 2 uv ui up 0 ub ⟨#[]⟩ true hu
  have hkb : knB s = true := by
    rcases chS_spec hc with h | ⟨_, _, h, _⟩
    · exact absurd (of_decide_eq_true h).2.2.1 (by rw [hkn]; decide)
    · exact h hkn
  obtain ⟨r1, r2, r3, r4, k', r5, r6, r7, r8, r9, r10, r11, r12, r13⟩ := knB_spec hn hp hkb
  obtain rfl : k = k' := by omega
  obtain ⟨K, k1, k2, k3, k4, k5, k6, k7⟩ := page_fc (i := i) hn r1 (by omega)
  have HD := ac_rpages s n p hn hp hb r1 k (by unfold pgX; rw [r4, if_pos rfl, hk])
  have HP := ac_rpackets s.mv s.ms s.mg s.mq i s.L n hn (by omega) 0 r1 0 k4 K k5
  have HS := fun (j : Nat) (hj : spE 0 K j = 0) (fr to : Int) (hfr : spF s.mg s.mq i j 0 = fr) (hto : spT s.ms s.mg s.mq i j 0 = to) => ac_rspan s.mv s.ms s.mg s.mq i j s.L n hn (by omega) 0 r1 0 k4 K k5 0 hj fr to hfr hto
  have hend : (i : Int) * s.mg + lenM s.ms s.mg i ≤ s.data.size := by
    obtain ⟨dk, dk1, f1, f2, f3, f4, f5, f6, f7, f8, f9⟩ := dn_fc hn r1 r4
    rw [hk] at dk1
    obtain rfl : k = dk := by omega
    by_cases he : (s.data.size : Int) = s.ms
    · omega
    · have h1 := f3 (by rcases Nat.lt_or_ge k n with h | h; exact h; exact absurd (f9.1 (by omega)) he)
      have h2 : ((i : Int) + 1) * s.mg ≤ k * s.mg := Int.mul_le_mul_of_nonneg_right (by omega) (by omega)
      rw [Int.add_mul, Int.one_mul] at h2
      unfold lenM
      omega
  have hs : srvL s up ub = rpL s.ver s.id s.ms s.mg s.mq s.data up ub K := by
    unfold srvL rpL
    rw [if_neg (by omega), hn, hk, if_pos (by omega), hup, k1, Int.toNat_natCast]
  rw [hs] at hm
  rw [hs]
  clear hc hu hkb r1 r2 r3 r4 r5 r7 r8 r9 hs hbits
  obtain ⟨ver, id, kn, mv, ms, mg, mq, L, data, bits, P⟩ := s
  dsimp only at *
  subst hv hi hkn hup
  refine acalls_of_aw Try.func29 rfl rfl ?_
  refine aw_ghost 7 rfl ?_
  repeat' first | intro h1 | refine st (h := ok_not_dec2 rfl) ?_ | refine sd (h := ok_not_dec2 rfl) ?_ | refine st (h := ok_str_eqlT rfl rfl) ?_ | refine st (h := ok_str_neqF rfl rfl) ?_ | refine sd (h := ok_str_eqlT rfl rfl) ?_ | refine sd (h := ok_str_neqF rfl rfl) ?_ | refine st ?_ | refine stRW [0, 1] H0 ?_ | refine stRW [0, 1] HD ?_ | refine stRW [0] HP ?_ | refine sdRW [0, 1] H0 ?_ | refine sdRW [0, 1] HD ?_ | refine sdRW [0] HP ?_ | refine st_call (H1) ?_ | refine sd_call (H1) ?_ | refine Kc ?_ | refine Ka ?_ | refine Kb ?_ ?_ | refine Jx (id := 9) [0,1,0,4,15] 5 ?_ | refine Jx (id := 16) [0,0,2,0,8,0,32,0,0,256,0,0,3840,8190,16382,32767,65535] 15 ?_ | fail
  all_goals try (exfalso; omega)
  refine aw_loopg
    (S := fun y : Ag => [(2, .pointer (some ⟨2, 0, none⟩)), (3, .pointer (some ⟨3, 0, none⟩)), (8, .slice (some ⟨4, 0, none⟩) (rpL uv ui ms mg mq data i ub y.i).length (rpL uv ui ms mg mq data i ub y.i).length), (9, .int .i64 K), (11, .int .i64 y.i)])
    (B := fun y : Ag => [some ⟨List.map Value.string L, false, 1⟩, some ⟨List.map Value.string P, false, 1⟩, some ⟨[.int .i64 uv, .string ui, .bool true, .int .i64 mv, .int .i64 ms, .int .i64 mg, .int .i64 mq, .slice (some ⟨0, 0, none⟩) n n, .string data, .int .u64 bits, .slice (some ⟨1, 0, none⟩) p p], true, 1⟩, some ⟨[.int .i64 2, .int .i64 uv, .string ui, .int .i64 i, .int .i64 0, .int .u64 ub, .string ⟨#[]⟩], true, 1⟩, some ⟨(rpL uv ui ms mg mq data i ub y.i).flatMap updC, true, 7⟩])
    (R := fun y : Ag => y.i ≤ K)
    (μ := fun y : Ag => K - y.i) ⟨0⟩ (fitsD [0, 1, 3, 4, 2]) (Nat.zero_le _) ?_
  clear H0 H1 HD HP
  rintro ⟨j⟩ g1
  dsimp only at g1 ⊢
  by_cases hj : j < K
  · obtain ⟨t1, t2, t3, t4⟩ := k7 j hj
    obtain ⟨fr, hfr⟩ : ∃ fr, spF mg mq i j 0 = fr := ⟨_, rfl⟩
    obtain ⟨to, hto⟩ : ∃ to, spT ms mg mq i j 0 = to := ⟨_, rfl⟩
    have H4 := HS j t1 fr to hfr hto
    have hw := bit_and ub j hub (by omega)
    have hst := rpL_step uv ui ms mg mq data i ub j
    have hle := rpL_len uv ui ms mg mq data i ub j
    obtain ⟨Z, hZ⟩ : ∃ Z, rpL uv ui ms mg mq data i ub j = Z := ⟨_, rfl⟩
    rw [hZ] at hst hle ⊢
    have hcell : ansU uv ui (preU ms mg mq data i j) = ⟨4, uv, ui, i, j, 0, data.extract fr.toNat to.toNat⟩ := by unfold preU; rw [hfr, hto]; rfl
    have hfl := flat_len Z (f := updC) (c := 7) fun a _ => rfl
    rw [hfr] at t2 t3
    rw [hto] at t3 t4
    by_cases hbt : ub.testBit j = true
    · rw [if_pos hbt] at hw hst
      rw [hcell] at hst
      have hcs : Z.flatMap updC ++ [.int .i64 4, .int .i64 uv, .string ui, .int .i64 i, .int .i64 j, .int .u64 0, .string (data.extract fr.toNat to.toNat)] = (rpL uv ui ms mg mq data i ub (j + 1)).flatMap updC := by
        rw [hst, List.flatMap_append]
        rfl
      have hln : (rpL uv ui ms mg mq data i ub (j + 1)).length = Z.length + 1 := by rw [hst, List.length_append]; rfl
      clear hfr hto k7 HS hst hcell
      repeat' first | intro h1 | refine st (h := ok_not_dec2 rfl) ?_ | refine sd (h := ok_not_dec2 rfl) ?_ | refine st (h := ok_andD rfl rfl hw) ?_ | refine sd (h := ok_andD rfl rfl hw) ?_ | refine sdb (n := 1) (h := by (apply ok_append (cs := (rpL uv ui ms mg mq data i ub (j + 1)).flatMap updC) (olds := Z.flatMap updC); rfl; rfl; rfl; rfl; rfl; rfl; (focus first | (apply Src.slc; rfl; exact Ty.eq; rfl; exact Nat.le_of_ble_eq_true rfl; exact TakeR.eq (by ((repeat constructor); first | done | fail)); rfl; rfl; first | done | fail)); (focus (rw [hfl]; omega)); (focus (apply take_full; rw [hfl])); (focus exact hcs); omega; (focus ((repeat constructor); first | done | fail)))) ?_ | refine stm (h := by (apply ok_append (cs := (rpL uv ui ms mg mq data i ub (j + 1)).flatMap updC) (olds := Z.flatMap updC); rfl; rfl; rfl; rfl; rfl; rfl; (focus first | (apply Src.slc; rfl; exact Ty.eq; rfl; exact Nat.le_of_ble_eq_true rfl; exact TakeR.eq (by ((repeat constructor); first | done | fail)); rfl; rfl; first | done | fail)); (focus (rw [hfl]; omega)); (focus (apply take_full; rw [hfl])); (focus exact hcs); omega; (focus ((repeat constructor); first | done | fail)))) ?_ | refine sdb (h := by (apply ok_append (cs := (rpL uv ui ms mg mq data i ub (j + 1)).flatMap updC) (olds := Z.flatMap updC); rfl; rfl; rfl; rfl; rfl; rfl; (focus first | (apply Src.slc; rfl; exact Ty.eq; rfl; exact Nat.le_of_ble_eq_true rfl; exact TakeR.eq (by ((repeat constructor); first | done | fail)); rfl; rfl; first | done | fail)); (focus (rw [hfl]; omega)); (focus (apply take_full; rw [hfl])); (focus exact hcs); omega; (focus ((repeat constructor); first | done | fail)))) ?_ | refine st ?_ | refine stRW [0] H4 ?_ | refine sdRW [0] H4 ?_ | refine Kc ?_ | refine Ka ?_ | refine Kb ?_ ?_ | refine Jx (id := 9) [0,1,0,4,15] 5 ?_ | refine Jx (id := 16) [0,0,2,0,8,0,32,0,0,256,0,0,3840,8190,16382,32767,65535] 15 ?_ | fail
      all_goals first | exact Exists.intro ⟨j + 1⟩ ⟨by (dsimp only; rw [hln]; exact fitsD [0, 1, 2, 3, 6]), by dsimp only; omega, by dsimp only; omega⟩ | exact Exists.intro ⟨j + 1⟩ ⟨by (dsimp only; rw [hln]; exact fitsD [0, 1, 2, 3, 5]), by dsimp only; omega, by dsimp only; omega⟩ | (exfalso; omega)
    · rw [if_neg hbt] at hw
      rw [if_neg hbt, List.append_nil] at hst
      clear hfr hto k7 HS hcell
      repeat' first | intro h1 | refine st (h := ok_not_dec2 rfl) ?_ | refine sd (h := ok_not_dec2 rfl) ?_ | refine st (h := ok_andD rfl rfl hw) ?_ | refine sd (h := ok_andD rfl rfl hw) ?_ | refine sdb (n := 1) (h := by (apply ok_append (cs := (rpL uv ui ms mg mq data i ub (j + 1)).flatMap updC) (olds := Z.flatMap updC); rfl; rfl; rfl; rfl; rfl; rfl; (focus first | (apply Src.slc; rfl; exact Ty.eq; rfl; exact Nat.le_of_ble_eq_true rfl; exact TakeR.eq (by ((repeat constructor); first | done | fail)); rfl; rfl; first | done | fail)); (focus (rw [hfl]; omega)); (focus (apply take_full; rw [hfl])); (focus exact hcs); omega; (focus ((repeat constructor); first | done | fail)))) ?_ | refine stm (h := by (apply ok_append (cs := (rpL uv ui ms mg mq data i ub (j + 1)).flatMap updC) (olds := Z.flatMap updC); rfl; rfl; rfl; rfl; rfl; rfl; (focus first | (apply Src.slc; rfl; exact Ty.eq; rfl; exact Nat.le_of_ble_eq_true rfl; exact TakeR.eq (by ((repeat constructor); first | done | fail)); rfl; rfl; first | done | fail)); (focus (rw [hfl]; omega)); (focus (apply take_full; rw [hfl])); (focus exact hcs); omega; (focus ((repeat constructor); first | done | fail)))) ?_ | refine sdb (h := by (apply ok_append (cs := (rpL uv ui ms mg mq data i ub (j + 1)).flatMap updC) (olds := Z.flatMap updC); rfl; rfl; rfl; rfl; rfl; rfl; (focus first | (apply Src.slc; rfl; exact Ty.eq; rfl; exact Nat.le_of_ble_eq_true rfl; exact TakeR.eq (by ((repeat constructor); first | done | fail)); rfl; rfl; first | done | fail)); (focus (rw [hfl]; omega)); (focus (apply take_full; rw [hfl])); (focus exact hcs); omega; (focus ((repeat constructor); first | done | fail)))) ?_ | refine st ?_ | refine stRW [0] H4 ?_ | refine sdRW [0] H4 ?_ | refine Kc ?_ | refine Ka ?_ | refine Kb ?_ ?_ | refine Jx (id := 9) [0,1,0,4,15] 5 ?_ | refine Jx (id := 16) [0,0,2,0,8,0,32,0,0,256,0,0,3840,8190,16382,32767,65535] 15 ?_ | fail
      all_goals first | exact Exists.intro ⟨j + 1⟩ ⟨by (dsimp only; rw [hst]; exact fitsD [0, 1, 2, 3, 4]), by dsimp only; omega, by dsimp only; omega⟩ | (exfalso; omega)
  · obtain rfl : j = K := by omega
    rw [hm]
    repeat' first | intro h1 | refine st (h := ok_not_dec2 rfl) ?_ | refine sd (h := ok_not_dec2 rfl) ?_ | refine st (h := ok_str_eqlT rfl rfl) ?_ | refine st (h := ok_str_neqF rfl rfl) ?_ | refine sd (h := ok_str_eqlT rfl rfl) ?_ | refine sd (h := ok_str_neqF rfl rfl) ?_ | refine st ?_ | refine Kc ?_ | refine Ka ?_ | refine Kb ?_ ?_ | refine Jx (id := 9) [0,1,0,4,15] 5 ?_ | refine Jx (id := 16) [0,0,2,0,8,0,32,0,0,256,0,0,3840,8190,16382,32767,65535] 15 ?_ | fail
    all_goals first | exact pm_ret _ (renumD [0, 1, 4]) rfl | (exfalso; omega)
end Go.Proofs.Ytekkdoaakilafaa
