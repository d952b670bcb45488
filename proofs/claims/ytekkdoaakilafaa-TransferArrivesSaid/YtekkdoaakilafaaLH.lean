/- TransferArrives: the law. -/
import Derived.Test.YtekkdoaakilafaaA4
import Derived.Test.YtekkdoaakilafaaW4
set_option linter.unusedVariables false
set_option linter.unusedSimpArgs false
namespace Go.Proofs.Ytekkdoaakilafaa
open Go Av
set_option maxRecDepth 20000
theorem flat_u8 (l : List Int) : (l.flatMap fun n => [Value.int .u8 n]) = List.map (Value.int .u8) l := by
  induction l with
  | nil => rfl
  | cons a l ih => rw [List.flatMap_cons, ih]; rfl
theorem wrap_u8 (a : Int) : IntKind.u8.wrap a = a % 256 := rfl
set_option maxHeartbeats 16000000 in
theorem law_arrivesF (F : Img) (H : List Int) (hH : ∀ x ∈ H, 0 ≤ x ∧ x ≤ 255) (hfew : F.L.length ≤ 70) (hd : F.d.size ≤ 1000) (hl : H.length ≤ 100) (HF : ACalls Try.prog 11 [.agg #[.int .i64 F.v, .int .i64 F.sz, .int .i64 F.pg, .int .i64 F.pk, .slice (some ⟨0, 0, none⟩) F.L.length F.L.length]] [some ⟨List.map Value.string F.L, false, 1⟩] (.bool true) [none]) : ACalls Try.prog 4 [.agg #[.int .i64 F.v, .int .i64 F.sz, .int .i64 F.pg, .int .i64 F.pk, .slice (some ⟨0, 0, none⟩) F.L.length F.L.length], .string F.d, .slice (some ⟨1, 0, none⟩) H.length H.length] [some ⟨List.map Value.string F.L, false, 1⟩, some ⟨List.map (Value.int .u8) H, false, 1⟩] (.bool true) [none, none] := by
  have fbd := F.bd
  have fok := F.ok.1
  have H1 := ac_Full F.v F.sz F.pg F.pk F.L F.L.length rfl (by omega) F.d (by omega) 0 F.hc F.D (by unfold idS; rw [if_neg (by decide)]; rfl) F.hy
  have HPk := fun (i : Nat) (hi : i < F.L.length) (K : Nat) (k4 : pgE 0 F.L.length i = 0) (k5 : pkM F.sz F.pg F.pk i 0 = K) => ac_packets F.v F.sz F.pg F.pk i F.L F.L.length rfl (by omega) 0 F.hc 0 k4 K k5
  have hpg := fun (i : Nat) (hi : i < F.L.length) => page_fc (n := F.L.length) rfl F.hc hi
  obtain ⟨n, hn⟩ : ∃ n, F.L.length = n := ⟨_, rfl⟩
  have HPF := ac_cp F.st F.L.length 0 rfl rfl ⟨by omega, by omega⟩
  have HA := ac_Announce F.st F.L.length 0 rfl rfl ⟨by omega, by omega⟩ (by show 0 < 18446744073709551616; decide) (by show F.d.size ≤ 1000000; omega) fok (decide_eq_false fun h => by have h2 : F.v = 0 := h.1; omega) (fun _ => .inl F.ok.2.1) F.L.length F.dnF
  have HN := ac_HearN sto0 0 0 rfl rfl (by decide) (by show 0 < 18446744073709551616; decide) (by show 0 ≤ 100000; decide) (by decide) 1 F.v F.D F.L.length 0 0 ⟨#[]⟩ (by
    unfold valU
    rw [decide_eq_true ⟨fbd.1.1, fbd.1.2, fbd.2.2.2.2.2.2.2.2⟩, if_pos rfl]
    exact decide_eq_true ⟨⟨by omega, by omega⟩, rfl, rfl, rfl⟩) rfl (by show (0 : Int) < F.v; omega)
  obtain ⟨sg1, sg2⟩ := start_good F
  dsimp only [Img.st, sto0, List.map_nil] at HPF HA HN
  refine acalls_law Try.func4 rfl rfl rfl ?_
  refine aw_ghost 1 rfl ?_
  refine aw_ghost 1 rfl ?_
  repeat' first
    | refine st (h := ok_not_dec2 rfl) ?_
    | refine st_call (ac_awake) ?_
    | refine st ?_
    | refine stRW [0] HF ?_
    | refine sdRW [0] HF ?_
    | refine stMW [0] H1 ?_
    | refine stm ?_
    | refine run_want rfl rfl ?_
    | refine run_unwant rfl rfl ?_
    | refine run_undef rfl rfl ?_
    | refine run_guard1t rfl rfl (by omega) ?_
    | refine run_guard1f rfl rfl (by omega) ?_
    | refine run_guard0t rfl rfl (by omega) ?_
    | refine run_guard0f rfl rfl (by omega) ?_
    | refine run_guard1 rfl rfl (fun h1 => ?_) (fun h1 => ?_)
    | refine run_guard0 rfl rfl (fun h1 => ?_) (fun h1 => ?_)
    | refine run_guard rfl rfl (fun h1 => ?_) (fun h1 => ?_)
    | refine run_nil ?_
    | refine aw_seq ?_
    | refine aw_region (by kernel_rfl) (Nat.le_of_ble_eq_true rfl) ?_
    | refine aw_block ?_
    | refine aw_cond_t rfl ?_
    | refine aw_cond_f rfl ?_
    | refine aw_cond_tp rfl (by omega) ?_
    | refine aw_cond_fp rfl (by omega) ?_
    | refine aw_cond1 rfl (fun h1 => ?_) (fun h1 => ?_)
    | refine aw_cond rfl (fun h1 => ?_) (fun h1 => ?_)
    | refine aw_skip ?_
    | refine aw_exit ?_
    | refine aw_ret ?_
    | refine pp_ret ?_
    | refine pp_normal ?_
  all_goals try (exfalso; omega)
  refine aw_loopg
    (S := fun y : Wi => [(1, .string F.d), (2, .slice (some ⟨1, 0, none⟩) H.length H.length), (3, .pointer (some ⟨4, 0, none⟩)), (7, .pointer (some ⟨7, 0, none⟩)), (9, .int .i64 (1 + (ascP F.sz F.pg F.pk y.i : Int))), (51, .int .i64 F.L.length), (52, .int .i64 y.i)])
    (B := fun _ : Wi => [some ⟨List.map Value.string F.L, false, 1⟩, some ⟨List.map (Value.int .u8) H, false, 1⟩, some ⟨[], true, 1⟩, some ⟨[], true, 1⟩, some ⟨[.int .i64 F.v, .int .i64 F.sz, .int .i64 F.pg, .int .i64 F.pk, .slice (some ⟨0, 0, none⟩) F.L.length F.L.length], true, 1⟩, some ⟨List.map Value.string F.L, true, 1⟩, some ⟨[], true, 1⟩, some ⟨[.int .i64 F.v, .string F.D, .bool true, .int .i64 F.v, .int .i64 F.sz, .int .i64 F.pg, .int .i64 F.pk, .slice (some ⟨5, 0, none⟩) F.L.length F.L.length, .string F.d, .int .u64 ((0 : Nat) : Int), .slice (some ⟨6, 0, none⟩) 0 0], true, 1⟩])
    (R := fun y : Wi => y.i ≤ F.L.length ∧ ascP F.sz F.pg F.pk y.i ≤ 64 * y.i)
    (μ := fun y : Wi => F.L.length - y.i) ⟨0⟩ (fitsD [0, 1, 2, 3, 4, 5, 6, 7]) ⟨Nat.zero_le _, Nat.le_refl _⟩ ?_
  clear H1 HF
  rintro ⟨i⟩ ⟨g1, g2⟩
  dsimp only at g1 g2 ⊢
  by_cases hi : i < F.L.length
  · obtain ⟨K, k1, k2, k3, k4, k5, k6, k7⟩ := hpg i hi
    have HPk := HPk i hi K k4 k5
    have hst : (1 + (ascP F.sz F.pg F.pk (i + 1) : Int)) = 1 + (ascP F.sz F.pg F.pk i : Int) + K := by
      show (1 + ((ascP F.sz F.pg F.pk i + (pkC F.sz F.pg F.pk (i : Int)).toNat : Nat) : Int)) = _
      rw [k1, Int.toNat_natCast]
      omega
    have hst2 : ascP F.sz F.pg F.pk (i + 1) ≤ 64 * (i + 1) := by omega
    clear HPF HA HN hpg k4 k5 k6 k7 sg1 sg2 fok
    repeat' first
      | refine st (h := ok_not_dec2 rfl) ?_
      | refine st ?_
      | refine stRW [0] HPk ?_
      | refine stm ?_
      | refine run_want rfl rfl ?_
      | refine run_unwant rfl rfl ?_
      | refine run_undef rfl rfl ?_
      | refine run_guard1t rfl rfl (by omega) ?_
      | refine run_guard1f rfl rfl (by omega) ?_
      | refine run_guard0t rfl rfl (by omega) ?_
      | refine run_guard0f rfl rfl (by omega) ?_
      | refine run_guard1 rfl rfl (fun h1 => ?_) (fun h1 => ?_)
      | refine run_guard0 rfl rfl (fun h1 => ?_) (fun h1 => ?_)
      | refine run_guard rfl rfl (fun h1 => ?_) (fun h1 => ?_)
      | refine run_nil ?_
      | refine aw_seq ?_
      | refine aw_region (by kernel_rfl) (Nat.le_of_ble_eq_true rfl) ?_
      | refine aw_block ?_
      | refine aw_cond_t rfl ?_
      | refine aw_cond_f rfl ?_
      | refine aw_cond_tp rfl (by omega) ?_
      | refine aw_cond_fp rfl (by omega) ?_
      | refine aw_cond1 rfl (fun h1 => ?_) (fun h1 => ?_)
      | refine aw_cond rfl (fun h1 => ?_) (fun h1 => ?_)
      | refine aw_skip ?_
      | refine aw_exit ?_
      | refine aw_ret ?_
      | refine pp_ret ?_
      | refine pp_normal ?_
    all_goals first
      | exact Exists.intro ⟨i + 1⟩ ⟨by (dsimp only; rw [hst]; exact fitsD [0, 1, 2, 3, 4, 5, 6, 7]), ⟨hi, hst2⟩, by dsimp only; omega⟩
      | (exfalso; omega)
  · obtain rfl : i = F.L.length := by omega
    clear HPk hpg
    obtain ⟨ro, hro⟩ : ∃ ro, 1 + ascP F.sz F.pg F.pk F.L.length = ro := ⟨_, rfl⟩
    have hro2 : (1 + (ascP F.sz F.pg F.pk F.L.length : Int)) = ro := by omega
    rw [hro2]
    rw [hro] at sg2
    by_cases hbig : 61 < ro
    · clear HPF HA HN sg1 sg2 fok
      repeat' first
        | refine st (h := ok_not_dec2 rfl) ?_
        | refine st_call (ac_awake) ?_
        | refine st ?_
        | refine stRW [0] HF ?_
        | refine sdRW [0] HF ?_
        | refine stMW [0] H1 ?_
        | refine stm ?_
        | refine run_want rfl rfl ?_
        | refine run_unwant rfl rfl ?_
        | refine run_undef rfl rfl ?_
        | refine run_guard1t rfl rfl (by omega) ?_
        | refine run_guard1f rfl rfl (by omega) ?_
        | refine run_guard0t rfl rfl (by omega) ?_
        | refine run_guard0f rfl rfl (by omega) ?_
        | refine run_guard1 rfl rfl (fun h1 => ?_) (fun h1 => ?_)
        | refine run_guard0 rfl rfl (fun h1 => ?_) (fun h1 => ?_)
        | refine run_guard rfl rfl (fun h1 => ?_) (fun h1 => ?_)
        | refine run_nil ?_
        | refine aw_seq ?_
        | refine aw_region (by kernel_rfl) (Nat.le_of_ble_eq_true rfl) ?_
        | refine aw_block ?_
        | refine aw_cond_t rfl ?_
        | refine aw_cond_f rfl ?_
        | refine aw_cond_tp rfl (by omega) ?_
        | refine aw_cond_fp rfl (by omega) ?_
        | refine aw_cond1 rfl (fun h1 => ?_) (fun h1 => ?_)
        | refine aw_cond rfl (fun h1 => ?_) (fun h1 => ?_)
        | refine aw_skip ?_
        | refine aw_exit ?_
        | refine aw_ret ?_
        | refine pp_ret ?_
        | refine pp_normal ?_
      all_goals first
        | rfl
        | (exfalso; omega)
        | (simp [retOf]; done)
        | (exfalso; simp_all; done)
    repeat' first
      | refine st (h := ok_not_dec2 rfl) ?_
      | refine st ?_
      | refine stMW [5, 6] HPF ?_
      | refine stRW [8, 9] HA ?_
      | refine stMW [2, 3] HN ?_
      | refine stm ?_
      | refine run_want rfl rfl ?_
      | refine run_unwant rfl rfl ?_
      | refine run_undef rfl rfl ?_
      | refine run_guard1t rfl rfl (by omega) ?_
      | refine run_guard1f rfl rfl (by omega) ?_
      | refine run_guard0t rfl rfl (by omega) ?_
      | refine run_guard0f rfl rfl (by omega) ?_
      | refine run_guard1 rfl rfl (fun h1 => ?_) (fun h1 => ?_)
      | refine run_guard0 rfl rfl (fun h1 => ?_) (fun h1 => ?_)
      | refine run_guard rfl rfl (fun h1 => ?_) (fun h1 => ?_)
      | refine run_nil ?_
      | refine aw_seq ?_
      | refine aw_region (by kernel_rfl) (Nat.le_of_ble_eq_true rfl) ?_
      | refine aw_block ?_
      | refine aw_cond_t rfl ?_
      | refine aw_cond_f rfl ?_
      | refine aw_cond_tp rfl (by omega) ?_
      | refine aw_cond_fp rfl (by omega) ?_
      | refine aw_cond1 rfl (fun h1 => ?_) (fun h1 => ?_)
      | refine aw_cond rfl (fun h1 => ?_) (fun h1 => ?_)
      | refine aw_skip ?_
      | refine aw_exit ?_
      | refine aw_ret ?_
      | refine pp_ret ?_
      | refine pp_normal ?_
    all_goals try (exfalso; omega)
    refine aw_loopg
      (S := fun y : Gi => [(1, .string F.d), (2, .slice (some ⟨1, 0, none⟩) H.length H.length), (7, .pointer (some ⟨7, 0, none⟩)), (9, .int .i64 ro), (14, .pointer (some ⟨8, 0, none⟩)), (17, .int .i64 y.i)])
      (B := fun y : Gi => [none, some ⟨List.map (Value.int .u8) H, false, 1⟩, none, none, none, some ⟨List.map Value.string F.L, true, 1⟩, some ⟨[], true, 1⟩, some ⟨[.int .i64 F.v, .string F.D, .bool true, .int .i64 F.v, .int .i64 F.sz, .int .i64 F.pg, .int .i64 F.pk, .slice (some ⟨5, 0, none⟩) F.L.length F.L.length, .string F.d, .int .u64 ((0 : Nat) : Int), .slice (some ⟨6, 0, none⟩) 0 0], true, 1⟩, some ⟨[.int .i64 y.s.ver, .string y.s.id, .bool y.s.kn, .int .i64 y.s.mv, .int .i64 y.s.ms, .int .i64 y.s.mg, .int .i64 y.s.mq, .slice (some ⟨9, 0, none⟩) y.s.L.length y.s.L.length, .string y.s.data, .int .u64 y.s.bits, .slice (some ⟨10, 0, none⟩) y.s.P.length y.s.P.length], true, 1⟩, some ⟨List.map Value.string y.s.L, true, 1⟩, some ⟨List.map Value.string y.s.P, true, 1⟩])
      (R := fun y : Gi => y.i ≤ ro ∧ F.g y.s ∧ F.l y.s + y.i ≤ ro)
      (μ := fun y : Gi => ro - y.i) ⟨0, ⟨F.v, F.D, false, 0, 0, 0, 0, [], ⟨#[]⟩, 0, []⟩, true⟩ (fitsD [0, 1, 2, 3, 4, 5, 6, 7, 13, 11, 12]) ⟨Nat.zero_le _, sg1, by rw [sg2]; exact Nat.le_refl _⟩ ?_
    clear HPF HA HN sg1 sg2 g2 hro hro2
    rintro ⟨i, s, r⟩ ⟨g1, g2, g3⟩
    dsimp only at g1 g2 g3 ⊢
    have gch := g2.2.2.1
    have gver := g2.1
    obtain ⟨b1, b2, b3, b4⟩ := chS_bd gch
    have HP := ac_cp s s.L.length s.P.length rfl rfl ⟨by omega, by omega⟩
    obtain ⟨cc, hcc⟩ : ∃ c, cpB s = c := ⟨_, rfl⟩
    have HM := ac_Complete s s.L.length s.P.length rfl rfl ⟨by omega, by omega⟩ b4 (by omega) true cc gch hcc
    cases cc
    case false =>
      by_cases hi : i < ro
      case neg =>
        exfalso
        have h0 := done_good F g2 (by omega)
        rw [h0] at hcc
        exact absurd hcc (by decide)
      by_cases hiH : i < H.length
      · obtain ⟨q, hq⟩ : ∃ q, H[i]? = some q := ⟨_, List.getElem?_eq_getElem (by omega)⟩
        have hq0 := hH q (List.mem_of_getElem? hq)
        obtain ⟨s', t1, t2, HR⟩ := ac_round F s g2 hcc (by omega) q hq0
        have g4 : i + 1 ≤ ro ∧ F.g s' ∧ F.l s' + (i + 1) ≤ ro := ⟨hi, t1, by omega⟩
        clear t1 t2 g2 g3 hcc gch gver hH fok
        obtain ⟨ver, id, kn, mv, ms, mg, mq, L, data, bits, P⟩ := s
        obtain ⟨ver', id', kn', mv', ms', mg', mq', L', data', bits', P'⟩ := s'
        dsimp only at HP HM HR b1 b2 b3 b4 g4 ⊢
        repeat' first
          | refine st (h := ok_not_dec2 rfl) ?_
          | refine st (h := ok_load_mapE (f := Value.int .u8) i hq rfl rfl rfl (by omega)) ?_
          | refine st ?_
          | refine stMW [9, 10] HP ?_
          | refine stRW [11, 12] HM ?_
          | refine stMW [9, 10, 5, 6] HR ?_
          | refine stm ?_
          | refine run_want rfl rfl ?_
          | refine run_unwant rfl rfl ?_
          | refine run_undef rfl rfl ?_
          | refine run_guard1t rfl rfl (by omega) ?_
          | refine run_guard1f rfl rfl (by omega) ?_
          | refine run_guard0t rfl rfl (by omega) ?_
          | refine run_guard0f rfl rfl (by omega) ?_
          | refine run_guard1 rfl rfl (fun h1 => ?_) (fun h1 => ?_)
          | refine run_guard0 rfl rfl (fun h1 => ?_) (fun h1 => ?_)
          | refine run_guard rfl rfl (fun h1 => ?_) (fun h1 => ?_)
          | refine run_nil ?_
          | refine aw_seq ?_
          | refine aw_region (by kernel_rfl) (Nat.le_of_ble_eq_true rfl) ?_
          | refine aw_block ?_
          | refine aw_cond_t rfl ?_
          | refine aw_cond_f rfl ?_
          | refine aw_cond_tp rfl (by omega) ?_
          | refine aw_cond_fp rfl (by omega) ?_
          | refine aw_cond1 rfl (fun h1 => ?_) (fun h1 => ?_)
          | refine aw_cond rfl (fun h1 => ?_) (fun h1 => ?_)
          | refine aw_skip ?_
          | refine aw_exit ?_
          | refine aw_ret ?_
          | refine pp_ret ?_
          | refine pp_normal ?_
        all_goals first
          | exact Exists.intro ⟨i + 1, ⟨ver', id', kn', mv', ms', mg', mq', L', data', bits', P'⟩, true⟩ ⟨fitsD [0, 1, 2, 3, 4, 5, 6, 7, 8, 13, 14], g4, by dsimp only; omega⟩
          | (exfalso; omega)
      · obtain ⟨q, hq⟩ : ∃ q, IntKind.u8.wrap (i : Int) = q := ⟨_, rfl⟩
        have hq0 : 0 ≤ q ∧ q ≤ 255 := by
          rw [← hq, wrap_u8]
          omega
        obtain ⟨s', t1, t2, HR⟩ := ac_round F s g2 hcc (by omega) q hq0
        have g4 : i + 1 ≤ ro ∧ F.g s' ∧ F.l s' + (i + 1) ≤ ro := ⟨hi, t1, by omega⟩
        clear t1 t2 g2 g3 hcc gch gver hH fok
        obtain ⟨ver, id, kn, mv, ms, mg, mq, L, data, bits, P⟩ := s
        obtain ⟨ver', id', kn', mv', ms', mg', mq', L', data', bits', P'⟩ := s'
        dsimp only at HP HM HR b1 b2 b3 b4 g4 ⊢
        repeat' first
          | refine st (h := ok_not_dec2 rfl) ?_
          | refine st (v := .int .u8 q) (h := by (rw [← hq]; exact ok_conv rfl)) ?_
          | refine st ?_
          | refine stMW [9, 10] HP ?_
          | refine stRW [11, 12] HM ?_
          | refine stMW [9, 10, 5, 6] HR ?_
          | refine stm ?_
          | refine run_want rfl rfl ?_
          | refine run_unwant rfl rfl ?_
          | refine run_undef rfl rfl ?_
          | refine run_guard1t rfl rfl (by omega) ?_
          | refine run_guard1f rfl rfl (by omega) ?_
          | refine run_guard0t rfl rfl (by omega) ?_
          | refine run_guard0f rfl rfl (by omega) ?_
          | refine run_guard1 rfl rfl (fun h1 => ?_) (fun h1 => ?_)
          | refine run_guard0 rfl rfl (fun h1 => ?_) (fun h1 => ?_)
          | refine run_guard rfl rfl (fun h1 => ?_) (fun h1 => ?_)
          | refine run_nil ?_
          | refine aw_seq ?_
          | refine aw_region (by kernel_rfl) (Nat.le_of_ble_eq_true rfl) ?_
          | refine aw_block ?_
          | refine aw_cond_t rfl ?_
          | refine aw_cond_f rfl ?_
          | refine aw_cond_tp rfl (by omega) ?_
          | refine aw_cond_fp rfl (by omega) ?_
          | refine aw_cond1 rfl (fun h1 => ?_) (fun h1 => ?_)
          | refine aw_cond rfl (fun h1 => ?_) (fun h1 => ?_)
          | refine aw_skip ?_
          | refine aw_exit ?_
          | refine aw_ret ?_
          | refine pp_ret ?_
          | refine pp_normal ?_
        all_goals first
          | exact Exists.intro ⟨i + 1, ⟨ver', id', kn', mv', ms', mg', mq', L', data', bits', P'⟩, true⟩ ⟨fitsD [0, 1, 2, 3, 4, 5, 6, 7, 8, 13, 14], g4, by dsimp only; omega⟩
          | (exfalso; omega)
    case true =>
      have hdat := data_good F g2 hcc
      have HK := ac_Ask0 s s.L.length s.P.length rfl rfl ⟨by omega, by omega⟩ b4 (by omega) gch (decide_eq_false fun h => by have := h.1; omega) hcc
      clear g2 g3 hcc gch hH fok
      obtain ⟨ver, id, kn, mv, ms, mg, mq, L, data, bits, P⟩ := s
      dsimp only at HP HM HK b1 b2 b3 b4 hdat gver ⊢
      subst hdat
      repeat' first
        | refine st (h := ok_not_dec2 rfl) ?_
        | refine st (h := ok_str_eqlT rfl rfl) ?_
        | refine st (h := ok_str_neqF rfl rfl) ?_
        | refine sd (h := ok_str_eqlT rfl rfl) ?_
        | refine sd (h := ok_str_neqF rfl rfl) ?_
        | refine st ?_
        | refine stMW [9, 10] HP ?_
        | refine stRW [11, 12] HM ?_
        | refine stRW [14, 15] HM ?_
        | refine stRW [16, 17] HM ?_
        | refine stRW [11, 12] HK ?_
        | refine stRW [13, 14] HK ?_
        | refine stm ?_
        | refine run_want rfl rfl ?_
        | refine run_unwant rfl rfl ?_
        | refine run_undef rfl rfl ?_
        | refine run_guard1t rfl rfl (by omega) ?_
        | refine run_guard1f rfl rfl (by omega) ?_
        | refine run_guard0t rfl rfl (by omega) ?_
        | refine run_guard0f rfl rfl (by omega) ?_
        | refine run_guard1 rfl rfl (fun h1 => ?_) (fun h1 => ?_)
        | refine run_guard0 rfl rfl (fun h1 => ?_) (fun h1 => ?_)
        | refine run_guard rfl rfl (fun h1 => ?_) (fun h1 => ?_)
        | refine run_nil ?_
        | refine aw_seq ?_
        | refine aw_region (by kernel_rfl) (Nat.le_of_ble_eq_true rfl) ?_
        | refine aw_block ?_
        | refine aw_cond_t rfl ?_
        | refine aw_cond_f rfl ?_
        | refine aw_cond_tp rfl (by omega) ?_
        | refine aw_cond_fp rfl (by omega) ?_
        | refine aw_cond1 rfl (fun h1 => ?_) (fun h1 => ?_)
        | refine aw_cond rfl (fun h1 => ?_) (fun h1 => ?_)
        | refine aw_skip ?_
        | refine aw_exit ?_
        | refine aw_ret ?_
        | refine pp_ret ?_
        | refine pp_normal ?_
      all_goals first
        | rfl
        | (exfalso; omega)
        | (refine congrArg Value.bool ?_; first | exact decide_eq_true (by omega) | exact decide_eq_false (by omega) | exact (decide_eq_true (by omega)).symm | exact (decide_eq_false (by omega)).symm)
        | (show Value.bool _ = Value.bool _; congr 1; first | exact decide_eq_true (by omega) | exact decide_eq_false (by omega) | exact (decide_eq_true (by omega)).symm | exact (decide_eq_false (by omega)).symm)
        | (simp [retOf]; done)
set_option maxHeartbeats 16000000 in
theorem law_arrives (v sz pg pk : Int) (L : List ByteArray) (d : ByteArray) (H : List Int) (hH : ∀ x ∈ H, 0 ≤ x ∧ x ≤ 255) : ACalls Try.prog 4 [.agg #[.int .i64 v, .int .i64 sz, .int .i64 pg, .int .i64 pk, .slice (some ⟨0, 0, none⟩) L.length L.length], .string d, .slice (some ⟨1, 0, none⟩) H.length H.length] [some ⟨List.map Value.string L, false, 1⟩, some ⟨List.map (Value.int .u8) H, false, 1⟩] (.bool true) [none, none] := by
  obtain ⟨w, hw⟩ : ∃ w, fewM L = w := ⟨_, rfl⟩
  have HF := ac_fewA v sz pg pk L L.length rfl w hw
  cases w
  · clear hw hH
    refine acalls_law Try.func4 rfl rfl rfl ?_
    repeat' first
      | refine st (h := ok_not_dec2 rfl) ?_
      | refine st_call (ac_awake) ?_
      | refine st ?_
      | refine stRW [0] HF ?_
      | refine sdRW [0] HF ?_
      | refine stRW [0] H1 ?_
      | refine stm ?_
      | refine run_want rfl rfl ?_
      | refine run_unwant rfl rfl ?_
      | refine run_undef rfl rfl ?_
      | refine run_guard1t rfl rfl (by omega) ?_
      | refine run_guard1f rfl rfl (by omega) ?_
      | refine run_guard0t rfl rfl (by omega) ?_
      | refine run_guard0f rfl rfl (by omega) ?_
      | refine run_guard1 rfl rfl (fun h1 => ?_) (fun h1 => ?_)
      | refine run_guard0 rfl rfl (fun h1 => ?_) (fun h1 => ?_)
      | refine run_guard rfl rfl (fun h1 => ?_) (fun h1 => ?_)
      | refine run_nil ?_
      | refine aw_seq ?_
      | refine aw_region (by kernel_rfl) (Nat.le_of_ble_eq_true rfl) ?_
      | refine aw_block ?_
      | refine aw_cond_t rfl ?_
      | refine aw_cond_f rfl ?_
      | refine aw_cond_tp rfl (by omega) ?_
      | refine aw_cond_fp rfl (by omega) ?_
      | refine aw_cond1 rfl (fun h1 => ?_) (fun h1 => ?_)
      | refine aw_cond rfl (fun h1 => ?_) (fun h1 => ?_)
      | refine aw_skip ?_
      | refine aw_exit ?_
      | refine aw_ret ?_
      | refine pp_ret ?_
      | refine pp_normal ?_
    all_goals first
      | rfl
      | (exfalso; omega)
      | (simp [retOf]; done)
      | (exfalso; simp_all; done)
  have hfew := (fewM_spec hw).1
  clear hw
  by_cases hd : d.size ≤ 1000
  case neg =>
    refine acalls_law Try.func4 rfl rfl rfl ?_
    repeat' first
      | refine st (h := ok_not_dec2 rfl) ?_
      | refine st_call (ac_awake) ?_
      | refine st ?_
      | refine stRW [0] HF ?_
      | refine sdRW [0] HF ?_
      | refine stRW [0] H1 ?_
      | refine stm ?_
      | refine run_want rfl rfl ?_
      | refine run_unwant rfl rfl ?_
      | refine run_undef rfl rfl ?_
      | refine run_guard1t rfl rfl (by omega) ?_
      | refine run_guard1f rfl rfl (by omega) ?_
      | refine run_guard0t rfl rfl (by omega) ?_
      | refine run_guard0f rfl rfl (by omega) ?_
      | refine run_guard1 rfl rfl (fun h1 => ?_) (fun h1 => ?_)
      | refine run_guard0 rfl rfl (fun h1 => ?_) (fun h1 => ?_)
      | refine run_guard rfl rfl (fun h1 => ?_) (fun h1 => ?_)
      | refine run_nil ?_
      | refine aw_seq ?_
      | refine aw_region (by kernel_rfl) (Nat.le_of_ble_eq_true rfl) ?_
      | refine aw_block ?_
      | refine aw_cond_t rfl ?_
      | refine aw_cond_f rfl ?_
      | refine aw_cond_tp rfl (by omega) ?_
      | refine aw_cond_fp rfl (by omega) ?_
      | refine aw_cond1 rfl (fun h1 => ?_) (fun h1 => ?_)
      | refine aw_cond rfl (fun h1 => ?_) (fun h1 => ?_)
      | refine aw_skip ?_
      | refine aw_exit ?_
      | refine aw_ret ?_
      | refine pp_ret ?_
      | refine pp_normal ?_
    all_goals first
      | rfl
      | (exfalso; omega)
      | (simp [retOf]; done)
      | (exfalso; simp_all; done)
  by_cases hl : H.length ≤ 100
  case neg =>
    refine acalls_law Try.func4 rfl rfl rfl ?_
    repeat' first
      | refine st (h := ok_not_dec2 rfl) ?_
      | refine st_call (ac_awake) ?_
      | refine st ?_
      | refine stRW [0] HF ?_
      | refine sdRW [0] HF ?_
      | refine stRW [0] H1 ?_
      | refine stm ?_
      | refine run_want rfl rfl ?_
      | refine run_unwant rfl rfl ?_
      | refine run_undef rfl rfl ?_
      | refine run_guard1t rfl rfl (by omega) ?_
      | refine run_guard1f rfl rfl (by omega) ?_
      | refine run_guard0t rfl rfl (by omega) ?_
      | refine run_guard0f rfl rfl (by omega) ?_
      | refine run_guard1 rfl rfl (fun h1 => ?_) (fun h1 => ?_)
      | refine run_guard0 rfl rfl (fun h1 => ?_) (fun h1 => ?_)
      | refine run_guard rfl rfl (fun h1 => ?_) (fun h1 => ?_)
      | refine run_nil ?_
      | refine aw_seq ?_
      | refine aw_region (by kernel_rfl) (Nat.le_of_ble_eq_true rfl) ?_
      | refine aw_block ?_
      | refine aw_cond_t rfl ?_
      | refine aw_cond_f rfl ?_
      | refine aw_cond_tp rfl (by omega) ?_
      | refine aw_cond_fp rfl (by omega) ?_
      | refine aw_cond1 rfl (fun h1 => ?_) (fun h1 => ?_)
      | refine aw_cond rfl (fun h1 => ?_) (fun h1 => ?_)
      | refine aw_skip ?_
      | refine aw_exit ?_
      | refine aw_ret ?_
      | refine pp_ret ?_
      | refine pp_normal ?_
    all_goals first
      | rfl
      | (exfalso; omega)
      | (simp [retOf]; done)
      | (exfalso; simp_all; done)
  obtain ⟨c, hc⟩ : ∃ c, chkM v sz pg pk L = c := ⟨_, rfl⟩
  obtain ⟨y, hy⟩ : ∃ y, inE c v sz pg L d = y := ⟨_, rfl⟩
  by_cases hy0 : y = 0
  case neg =>
    have H1 := ac_FullX v sz pg pk L L.length rfl (by omega) d (by omega) c hc y hy hy0
    clear hc hy hH
    refine acalls_law Try.func4 rfl rfl rfl ?_
    repeat' first
      | refine st (h := ok_not_dec2 rfl) ?_
      | refine st_call (ac_awake) ?_
      | refine st ?_
      | refine stRW [0] HF ?_
      | refine sdRW [0] HF ?_
      | refine stRW [0] H1 ?_
      | refine stm ?_
      | refine run_want rfl rfl ?_
      | refine run_unwant rfl rfl ?_
      | refine run_undef rfl rfl ?_
      | refine run_guard1t rfl rfl (by omega) ?_
      | refine run_guard1f rfl rfl (by omega) ?_
      | refine run_guard0t rfl rfl (by omega) ?_
      | refine run_guard0f rfl rfl (by omega) ?_
      | refine run_guard1 rfl rfl (fun h1 => ?_) (fun h1 => ?_)
      | refine run_guard0 rfl rfl (fun h1 => ?_) (fun h1 => ?_)
      | refine run_guard rfl rfl (fun h1 => ?_) (fun h1 => ?_)
      | refine run_nil ?_
      | refine aw_seq ?_
      | refine aw_region (by kernel_rfl) (Nat.le_of_ble_eq_true rfl) ?_
      | refine aw_block ?_
      | refine aw_cond_t rfl ?_
      | refine aw_cond_f rfl ?_
      | refine aw_cond_tp rfl (by omega) ?_
      | refine aw_cond_fp rfl (by omega) ?_
      | refine aw_cond1 rfl (fun h1 => ?_) (fun h1 => ?_)
      | refine aw_cond rfl (fun h1 => ?_) (fun h1 => ?_)
      | refine aw_skip ?_
      | refine aw_exit ?_
      | refine aw_ret ?_
      | refine pp_ret ?_
      | refine pp_normal ?_
    all_goals first
      | rfl
      | (exfalso; omega)
      | (simp [retOf]; done)
      | (exfalso; simp_all; done)
  subst hy0
  have hc0 : c = 0 := by
    rcases chk_01 v sz pg pk L with h | h
    · omega
    · exfalso
      have : inE c v sz pg L d = 1 := if_pos (by omega)
      omega
  subst hc0
  obtain ⟨F, e1, e2, e3, e4, e5, e6⟩ : ∃ F : Img, F.v = v ∧ F.sz = sz ∧ F.pg = pg ∧ F.pk = pk ∧ F.L = L ∧ F.d = d := ⟨⟨v, sz, pg, pk, L, d, hc, hy⟩, rfl, rfl, rfl, rfl, rfl, rfl⟩
  subst e1 e2 e3 e4 e5 e6
  exact law_arrivesF F H hH hfew hd hl HF
end Go.Proofs.Ytekkdoaakilafaa
