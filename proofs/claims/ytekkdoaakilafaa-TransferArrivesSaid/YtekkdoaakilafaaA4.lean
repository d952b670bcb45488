/- Transfer: a round, walked. -/
import Derived.Test.YtekkdoaakilafaaA3
import Derived.Test.YtekkdoaakilafaaY1
set_option linter.unusedVariables false
set_option linter.unusedSimpArgs false
namespace Go.Proofs.Ytekkdoaakilafaa
open Go Av
set_option maxRecDepth 20000
/-- Which answers are heard. -/
def hdB (h N : Int) (i : Nat) : Bool := decide ((i : Int) = h % N) || decide (bitv .and .u8 (h / 2 ^ (min ((i : Int) % 8).toNat IntKind.u8.bits)) 1 ≠ 0)
structure Gr where
  i : Nat
  s : Sto
  r : Bool
set_option maxHeartbeats 16000000 in
theorem ac_round (F : Img) (s : Sto) (hg : F.g s) (hcc : cpB s = false) (hdF : F.d.size ≤ 100000) (hh : Int) (hh0 : 0 ≤ hh ∧ hh ≤ 255) : ∃ s' : Sto, F.g s' ∧ F.l s' < F.l s ∧ ACalls Try.prog 21 [.agg #[.int .i64 s.ver, .string s.id, .bool s.kn, .int .i64 s.mv, .int .i64 s.ms, .int .i64 s.mg, .int .i64 s.mq, .slice (some ⟨0, 0, none⟩) s.L.length s.L.length, .string s.data, .int .u64 s.bits, .slice (some ⟨1, 0, none⟩) s.P.length s.P.length], .agg #[.int .i64 F.v, .string F.D, .bool true, .int .i64 F.v, .int .i64 F.sz, .int .i64 F.pg, .int .i64 F.pk, .slice (some ⟨2, 0, none⟩) F.L.length F.L.length, .string F.d, .int .u64 ((0 : Nat) : Int), .slice (some ⟨3, 0, none⟩) 0 0], .int .u8 hh] [some ⟨List.map Value.string s.L, false, 1⟩, some ⟨List.map Value.string s.P, false, 1⟩, some ⟨List.map Value.string F.L, false, 1⟩, some ⟨[], false, 1⟩] (.tuple #[.agg #[.int .i64 s'.ver, .string s'.id, .bool s'.kn, .int .i64 s'.mv, .int .i64 s'.ms, .int .i64 s'.mg, .int .i64 s'.mq, .slice (some ⟨4, 0, none⟩) s'.L.length s'.L.length, .string s'.data, .int .u64 s'.bits, .slice (some ⟨5, 0, none⟩) s'.P.length s'.P.length], .bool true]) [none, none, none, none, some ⟨List.map Value.string s'.L, true, 1⟩, some ⟨List.map Value.string s'.P, true, 1⟩] := by
  obtain ⟨l, hl, l1, l2, l3, l4, l5, l6, l7⟩ := rnd_ok F hg hcc
  obtain ⟨m, hm⟩ : ∃ m, l.length = m := ⟨_, rfl⟩
  rw [hm] at l1 l2 l7
  have hmod : 0 ≤ hh % (m : Int) ∧ hh % (m : Int) < m := ⟨Int.emod_nonneg _ (by omega), Int.emod_lt_of_pos _ (by omega)⟩
  obtain ⟨h0, hh1⟩ : ∃ h0, hh % (m : Int) = h0 := ⟨_, rfl⟩
  refine ⟨rdS l (hdB hh m) s m, (l7 _ m (Nat.le_refl _)).1, (l7 _ m (Nat.le_refl _)).2.2 ⟨h0.toNat, by omega, ?_⟩, ?_⟩
  · unfold hdB
    rw [decide_eq_true (by omega)]
    rfl
  obtain ⟨g1, g2, g3, g4⟩ := id hg
  obtain ⟨c1, c2, c3, c4⟩ := chS_bd g3
  have fok := F.ok.1
  obtain ⟨f1, f2, f3, f4⟩ := chS_bd fok
  have fbd := F.bd
  have hz : zeB s = false := decide_eq_false fun h => by
    have := fbd.1
    omega
  have hk0 : s.kn = true → ((s.data.size : Int) = s.ms ∨ 1 ≤ s.mg) ∧ s.P.length ≤ 64 ∧ s.bits < 2 ^ s.P.length := fun hk => by
    obtain ⟨_, r1, _, k, r3, r4, r5, r6⟩ := open_fc g3 hk
    have hbd := siz_bd (chk_ok r1).1
    refine ⟨.inr (by omega), c2, ?_⟩
    have hlt : k < s.L.length := by
      rcases Nat.lt_or_ge k s.L.length with h | h
      · exact h
      · have := r5.1 (by omega)
        unfold cpB at hcc
        rw [hk, Bool.true_and] at hcc
        exact absurd this (of_decide_eq_false hcc)
    obtain ⟨_, K, _, _, _, k4, k5, _⟩ := r6 hlt
    rw [k4]
    exact k5
  have HP := ac_cp s s.L.length s.P.length rfl rfl ⟨by omega, by omega⟩
  obtain ⟨qp, hqp⟩ : ∃ g, (askU s).page = g := ⟨_, rfl⟩
  obtain ⟨qb, hqb⟩ : ∃ g, (askU s).bits = g := ⟨_, rfl⟩
  have HK := ac_Ask s s.L.length s.P.length rfl rfl ⟨by omega, by omega⟩ c4 (by omega) g3 hz hcc hk0 qp hqp qb hqb
  rw [hqp, hqb] at hl l4
  rw [hqb] at l5
  rw [hqp] at l6
  have HPF := ac_cp F.st F.L.length 0 rfl rfl ⟨by omega, by omega⟩
  have HV : ACalls Try.prog 24 [.agg #[.int .i64 F.v, .string F.D, .bool true, .int .i64 F.v, .int .i64 F.sz, .int .i64 F.pg, .int .i64 F.pk, .slice (some ⟨0, 0, none⟩) F.L.length F.L.length, .string F.d, .int .u64 ((0 : Nat) : Int), .slice (some ⟨1, 0, none⟩) 0 0], .agg #[.int .i64 2, .int .i64 F.v, .string F.D, .int .i64 qp, .int .i64 0, .int .u64 qb, .string ⟨#[]⟩]] [some ⟨List.map Value.string F.L, false, 1⟩, some ⟨[], false, 1⟩] (.tuple #[.slice (some ⟨2, 0, none⟩) m m, .int .i64 0]) [none, none, some ⟨l.flatMap updC, true, 7⟩] := by
    rcases l6 with h | ⟨k, h1, h2⟩
    · have hm1 : m = 1 := by
        rw [← hm, ← hl]
        unfold srvL
        rw [if_pos h]
        rfl
      subst hm1
      rw [← hl]
      exact ac_ServeM F.st F.L.length 0 rfl rfl ⟨by omega, by omega⟩ f4 (by show F.d.size ≤ 100000; omega) fok rfl F.v F.D qp qb l4 rfl rfl h
    · rw [← hl] at hm ⊢
      exact ac_ServeP F.st F.L.length 0 rfl rfl ⟨by omega, by omega⟩ f4 (by show F.d.size ≤ 100000; omega) fok rfl F.v F.D qp qb l5 l4 rfl rfl k h1 F.L.length F.dnF h2 m hm
  rw [g1, show s.id = F.D from g2] at HK
  have hver : s.ver = F.v := g1
  have hid : s.id = F.D := g2
  clear hl l4 l5 l6 hz hk0 g4 hcc fok f4 hqp hqb
  dsimp only [Img.st, List.map_nil] at HPF
  have l9 := fun i hi => (l7 (hdB hh m) i hi).1
  clear l7 hg
  obtain ⟨s0, hs0⟩ : ∃ s0, s = s0 := ⟨_, rfl⟩
  have hfin : ∀ i, rdS l (hdB hh m) s i = rdS l (hdB hh m) s0 i := fun i => by rw [hs0]
  rw [hfin m]
  have l8 : ∀ i, i ≤ m → F.g (rdS l (hdB hh m) s0 i) := fun i hi => by rw [← hfin i]; exact l9 i hi
  clear l9
  have hs00 : rdS l (hdB hh m) s0 0 = s := hs0.symm
  clear hfin hs0
  obtain ⟨R, hR⟩ : ∃ R, rdS l (hdB hh m) s0 = R := ⟨_, rfl⟩
  have hst1 : ∀ i, hdB hh m i = true → R (i + 1) = heS (R i) (l.getD i upd0) := fun i h => by rw [← hR]; exact rd_yes h
  have hst0 : ∀ i, hdB hh m i = false → R (i + 1) = R i := fun i h => by rw [← hR]; exact rd_no h
  rw [hR] at hs00 l8 ⊢
  clear hR
  obtain ⟨sE, hsE⟩ : ∃ sE, R m = sE := ⟨_, rfl⟩
  rw [hsE]
  obtain ⟨ver, id, kn, mv, ms, mg, mq, L, data, bits, P⟩ := s
  dsimp only at *
  subst hver hid
  refine acalls_of_aw Try.func21 rfl rfl ?_
  repeat' first
    | refine st ?_
    | refine stMW [0, 1] HP ?_
    | refine stRW [7, 8] HK ?_
    | refine sdNR (r' := .agg #[.int .i64 F.v, .string F.D, .bool true, .int .i64 F.v, .int .i64 F.sz, .int .i64 F.pg, .int .i64 F.pk, .slice (some ⟨10, 0, none⟩) F.L.length F.L.length, .string F.d, .int .u64 ((0 : Nat) : Int), .slice (some ⟨11, 0, none⟩) 0 0]) (N := [some ⟨List.map Value.string F.L, true, 1⟩, some ⟨[], true, 1⟩]) [2, 3] 2 HPF ?_
    | refine sdNR (r' := .tuple #[.slice (some ⟨12, 0, none⟩) m m, .int .i64 0]) (N := [some ⟨l.flatMap updC, true, 7⟩]) [10, 11] 1 HV ?_
    | refine stm ?_
    | refine run_want rfl rfl ?_
    | refine run_unwant rfl rfl ?_
    | refine run_undef rfl rfl ?_
    | refine run_guard1t rfl rfl (by omega) ?_
    | refine run_guard1f rfl rfl (by omega) ?_
    | refine run_guard0t rfl rfl (by omega) ?_
    | refine run_guard0f rfl rfl (by omega) ?_
    | refine run_guard1 rfl rfl (fun h1 => ?_) (fun h1 => ?_)
    | refine run_guard0 rfl rfl (fun h1 => ?_) (fun h1 => ?_)
    | refine run_guard rfl rfl (fun h1 => ?_) (fun h1 => ?_)
    | refine run_nil ?_
    | refine sd ?_
    | refine sdl ?_
    | refine sdm (n := 1) ?_
    | refine sdm ?_
    | refine sdb ?_
    | refine rund_want rfl rfl ?_
    | refine rund_unwant rfl rfl ?_
    | refine rund_undef rfl rfl ?_
    | refine rund_guard1 rfl rfl (fun h1 => ?_) (fun h1 => ?_)
    | refine rund_guard0 rfl rfl (fun h1 => ?_) (fun h1 => ?_)
    | refine rund_guard rfl rfl (fun h1 => ?_) (fun h1 => ?_)
    | refine rund_nil ?_
    | refine aw_seq ?_
    | refine aw_region (by kernel_rfl) (Nat.le_of_ble_eq_true rfl) ?_
    | refine aw_region_dC (id := 2) [0, 1, 0, 7, 15, 31, 31, 63, 255] 9 (by (repeat constructor)) (by kernel_rfl) (by kernel_rfl) (by kernel_rfl) (by rfl) ?_
    | refine aw_region_dC (id := 9) [0, 1, 0, 7, 15, 31, 31, 31, 0, 319, 895, 2047] 9 (by (repeat constructor)) (by kernel_rfl) (by kernel_rfl) (by kernel_rfl) (by rfl) ?_
    | refine aw_block ?_
    | refine aw_cond_t rfl ?_
    | refine aw_cond_f rfl ?_
    | refine aw_cond_tp rfl (by omega) ?_
    | refine aw_cond_fp rfl (by omega) ?_
    | refine aw_cond1 rfl (fun h1 => ?_) (fun h1 => ?_)
    | refine aw_cond rfl (fun h1 => ?_) (fun h1 => ?_)
    | refine aw_skip ?_
    | refine aw_exit ?_
    | refine aw_ret ?_
    | refine pp_ret ?_
    | refine pp_normal ?_
  all_goals try (exfalso; omega)
  refine aw_loopg
    (S := fun y : Gr => [(2, .int .u8 hh), (3, .pointer (some ⟨4, 0, none⟩)), (6, .pointer (some ⟨5, 0, none⟩)), (10, .slice (some ⟨6, 0, none⟩) m m), (42, .slice (some ⟨6, 0, none⟩) m m), (43, .int .i64 m), (44, .int .i64 y.i)])
    (B := fun y : Gr => [none, none, none, none, some ⟨[.int .i64 y.s.ver, .string y.s.id, .bool y.s.kn, .int .i64 y.s.mv, .int .i64 y.s.ms, .int .i64 y.s.mg, .int .i64 y.s.mq, .slice (some ⟨7, 0, none⟩) y.s.L.length y.s.L.length, .string y.s.data, .int .u64 y.s.bits, .slice (some ⟨8, 0, none⟩) y.s.P.length y.s.P.length], true, 1⟩, some ⟨[.int .i64 0, .string ByteArray.empty, .bool false, .int .i64 0, .int .i64 0, .int .i64 0, .int .i64 0, .slice none 0 0, .string ByteArray.empty, .int .u64 0, .slice none 0 0], true, 1⟩, some ⟨l.flatMap updC, true, 7⟩, some ⟨List.map Value.string y.s.L, y.r, 1⟩, some ⟨List.map Value.string y.s.P, y.r, 1⟩])
    (R := fun y : Gr => y.i ≤ m ∧ y.s = R y.i ∧ (h0 < y.i → y.r = true))
    (μ := fun y : Gr => m - y.i) ⟨0, ⟨F.v, F.D, kn, mv, ms, mg, mq, L, data, bits, P⟩, false⟩ (fitsD [0, 1, 2, 3, 4, 6, 12, 0, 1]) ⟨Nat.zero_le _, hs00.symm, fun h => absurd (show h0 < ((0 : Nat) : Int) from h) (by omega)⟩ ?_
  clear HP HK HPF HV hs00 c1 c2 c3 c4 g3
  rintro ⟨i, s, r⟩ ⟨g1, g2, g3⟩
  dsimp only at g1 g2 g3 ⊢
  by_cases hi : i < m
  · obtain ⟨⟨uk, uv, ui, up, ut, ub, ud⟩, hq⟩ : ∃ q, l[i]? = some q := ⟨_, List.getElem?_eq_getElem (by omega)⟩
    have hqd : l.getD i upd0 = ⟨uk, uv, ui, up, ut, ub, ud⟩ := by rw [List.getD_eq_getElem?_getD, hq]; rfl
    obtain ⟨hu, hud⟩ := l3 _ (List.mem_of_getElem? hq)
    have hgi := l8 i g1
    rw [← g2] at hgi
    have hci := hgi.2.2.1
    obtain ⟨b1, b2, b3, b4⟩ := chS_bd hci
    have HP := ac_cp s s.L.length s.P.length rfl rfl ⟨by omega, by omega⟩
    have hu : valU uk uv ui up ut ub ud = true := hu
    obtain ⟨s', hs'⟩ : ∃ s', heS s ⟨uk, uv, ui, up, ut, ub, ud⟩ = s' := ⟨_, rfl⟩
    obtain ⟨e, he⟩ : ∃ e, heE s ⟨uk, uv, ui, up, ut, ub, ud⟩ = e := ⟨_, rfl⟩
    have HE := ac_Hear s s.L.length s.P.length rfl rfl ⟨by omega, by omega⟩ b4 (by omega) hci uk uv ui up ut ub ud hu s' hs' e he s'.L.length s'.P.length rfl rfl
    have st1 := hst1 i
    have st0 := hst0 i
    rw [hqd, ← g2, hs'] at st1
    rw [← g2] at st0
    unfold hdB at st1 st0
    obtain ⟨w, hw⟩ : ∃ w, (i : Int) % 8 = w := ⟨_, rfl⟩
    have hw0 : 0 ≤ w ∧ w < 8 := ⟨by rw [← hw]; exact Int.emod_nonneg _ (by decide), by rw [← hw]; exact Int.emod_lt_of_pos _ (by decide)⟩
    rw [hw, hh1] at st1 st0
    obtain ⟨y, hy⟩ : ∃ y, hh / 2 ^ (min w.toNat IntKind.u8.bits) = y := ⟨_, rfl⟩
    rw [hy] at st1 st0
    obtain ⟨z, hz⟩ : ∃ z, bitv .and .u8 y 1 = z := ⟨_, rfl⟩
    rw [hz] at st1 st0
    clear hci hgi hu hud he hs' hqd l3 l8 hst1 hst0 g2
    by_cases hi0 : (i : Int) = h0
    · have st1 := st1 (by rw [decide_eq_true hi0]; rfl)
      have g4 : i + 1 ≤ m ∧ s' = R (i + 1) ∧ (h0 < ((i + 1 : Nat) : Int) → true = true) := ⟨hi, st1.symm, fun _ => rfl⟩
      clear st1 st0 hsE g3
      obtain ⟨ver, id, kn, mv, ms, mg, mq, L, data, bits, P⟩ := s
      obtain ⟨ver', id', kn', mv', ms', mg', mq', L', data', bits', P'⟩ := s'
      dsimp only at HP HE b1 b2 b3 b4 g4 ⊢
      repeat' first
        | refine st (h := ok_load_rowsE (f := updC) (cs := [.int .i64 uk, .int .i64 uv, .string ui, .int .i64 up, .int .i64 ut, .int .u64 ub, .string ud]) i (fun _ => rfl) hq rfl rfl rfl rfl (by omega)) ?_
        | refine st (v := .int .i64 h0) (h := by (rw [← hh1]; exact ok_rem_pos rfl rfl (by omega))) ?_
        | refine sd (v := .int .i64 h0) (h := by (rw [← hh1]; exact ok_rem_pos rfl rfl (by omega))) ?_
        | refine st (v := .int .i64 w) (h := by (rw [← hw]; exact ok_rem_pos rfl rfl (by omega))) ?_
        | refine sd (v := .int .i64 w) (h := by (rw [← hw]; exact ok_rem_pos rfl rfl (by omega))) ?_
        | refine st (v := .int .u8 y) (h := by (rw [← hy]; exact ok_shr rfl rfl (by omega))) ?_
        | refine sd (v := .int .u8 y) (h := by (rw [← hy]; exact ok_shr rfl rfl (by omega))) ?_
        | refine st (v := .int .u8 z) (h := by (rw [← hz]; exact ok_and rfl rfl)) ?_
        | refine sd (v := .int .u8 z) (h := by (rw [← hz]; exact ok_and rfl rfl)) ?_
        | refine st ?_
        | refine sdNR (r' := .agg #[.int .i64 ver, .string id, .bool kn, .int .i64 mv, .int .i64 ms, .int .i64 mg, .int .i64 mq, .slice (some ⟨10, 0, none⟩) L.length L.length, .string data, .int .u64 bits, .slice (some ⟨11, 0, none⟩) P.length P.length]) (N := [some ⟨List.map Value.string L, true, 1⟩, some ⟨List.map Value.string P, true, 1⟩]) [7, 8] 2 HP ?_
        | refine sdNR (r' := .tuple #[.agg #[.int .i64 ver', .string id', .bool kn', .int .i64 mv', .int .i64 ms', .int .i64 mg', .int .i64 mq', .slice (some ⟨12, 0, none⟩) L'.length L'.length, .string data', .int .u64 bits', .slice (some ⟨13, 0, none⟩) P'.length P'.length], .bool e, .int .i64 0]) (N := [some ⟨List.map Value.string L', true, 1⟩, some ⟨List.map Value.string P', true, 1⟩]) [10, 11] 2 HE ?_
        | refine stm ?_
        | refine run_want rfl rfl ?_
        | refine run_unwant rfl rfl ?_
        | refine run_undef rfl rfl ?_
        | refine run_guard1t rfl rfl (by omega) ?_
        | refine run_guard1f rfl rfl (by omega) ?_
        | refine run_guard0t rfl rfl (by omega) ?_
        | refine run_guard0f rfl rfl (by omega) ?_
        | refine run_guard1 rfl rfl (fun h1 => ?_) (fun h1 => ?_)
        | refine run_guard0 rfl rfl (fun h1 => ?_) (fun h1 => ?_)
        | refine run_guard rfl rfl (fun h1 => ?_) (fun h1 => ?_)
        | refine run_nil ?_
        | refine sd ?_
        | refine sdl ?_
        | refine sdm (n := 1) ?_
        | refine sdm ?_
        | refine sdb ?_
        | refine rund_want rfl rfl ?_
        | refine rund_unwant rfl rfl ?_
        | refine rund_undef rfl rfl ?_
        | refine rund_guard1 rfl rfl (fun h1 => ?_) (fun h1 => ?_)
        | refine rund_guard0 rfl rfl (fun h1 => ?_) (fun h1 => ?_)
        | refine rund_guard rfl rfl (fun h1 => ?_) (fun h1 => ?_)
        | refine rund_nil ?_
        | refine aw_seq ?_
        | refine aw_region (by kernel_rfl) (Nat.le_of_ble_eq_true rfl) ?_
        | refine aw_region_dC (id := 2) [0, 1, 0, 7, 15, 31, 31, 63, 255] 9 (by (repeat constructor)) (by kernel_rfl) (by kernel_rfl) (by kernel_rfl) (by rfl) ?_
        | refine aw_region_dC (id := 9) [0, 1, 0, 7, 15, 31, 31, 31, 0, 319, 895, 2047] 9 (by (repeat constructor)) (by kernel_rfl) (by kernel_rfl) (by kernel_rfl) (by rfl) ?_
        | refine aw_block ?_
        | refine aw_cond_t rfl ?_
        | refine aw_cond_f rfl ?_
        | refine aw_cond_tp rfl (by omega) ?_
        | refine aw_cond_fp rfl (by omega) ?_
        | refine aw_cond1 rfl (fun h1 => ?_) (fun h1 => ?_)
        | refine aw_cond rfl (fun h1 => ?_) (fun h1 => ?_)
        | refine aw_skip ?_
        | refine aw_exit ?_
        | refine aw_ret ?_
        | refine pp_ret ?_
        | refine pp_normal ?_
      all_goals first
        | exact Exists.intro ⟨i + 1, ⟨ver', id', kn', mv', ms', mg', mq', L', data', bits', P'⟩, true⟩ ⟨fitsD [0, 1, 2, 3, 4, 5, 6, 12, 13], g4, by dsimp only; omega⟩
        | (exfalso; omega)
    · by_cases hz0 : z = 0
      · have st0 := st0 (by rw [decide_eq_false hi0, decide_eq_false (fun h => h hz0)]; rfl)
        have g4 : i + 1 ≤ m ∧ s = R (i + 1) ∧ (h0 < ((i + 1 : Nat) : Int) → r = true) := ⟨hi, st0.symm, fun h => g3 (by omega)⟩
        clear st1 st0 hsE g3
        obtain ⟨ver, id, kn, mv, ms, mg, mq, L, data, bits, P⟩ := s
        dsimp only at HP HE b1 b2 b3 b4 g4 ⊢
        repeat' first
          | refine st (h := ok_load_rowsE (f := updC) (cs := [.int .i64 uk, .int .i64 uv, .string ui, .int .i64 up, .int .i64 ut, .int .u64 ub, .string ud]) i (fun _ => rfl) hq rfl rfl rfl rfl (by omega)) ?_
          | refine st (v := .int .i64 h0) (h := by (rw [← hh1]; exact ok_rem_pos rfl rfl (by omega))) ?_
          | refine sd (v := .int .i64 h0) (h := by (rw [← hh1]; exact ok_rem_pos rfl rfl (by omega))) ?_
          | refine st (v := .int .i64 w) (h := by (rw [← hw]; exact ok_rem_pos rfl rfl (by omega))) ?_
          | refine sd (v := .int .i64 w) (h := by (rw [← hw]; exact ok_rem_pos rfl rfl (by omega))) ?_
          | refine st (v := .int .u8 y) (h := by (rw [← hy]; exact ok_shr rfl rfl (by omega))) ?_
          | refine sd (v := .int .u8 y) (h := by (rw [← hy]; exact ok_shr rfl rfl (by omega))) ?_
          | refine st (v := .int .u8 z) (h := by (rw [← hz]; exact ok_and rfl rfl)) ?_
          | refine sd (v := .int .u8 z) (h := by (rw [← hz]; exact ok_and rfl rfl)) ?_
          | refine st ?_
          | refine sdNR (r' := .agg #[.int .i64 ver, .string id, .bool kn, .int .i64 mv, .int .i64 ms, .int .i64 mg, .int .i64 mq, .slice (some ⟨10, 0, none⟩) L.length L.length, .string data, .int .u64 bits, .slice (some ⟨11, 0, none⟩) P.length P.length]) (N := [some ⟨List.map Value.string L, true, 1⟩, some ⟨List.map Value.string P, true, 1⟩]) [7, 8] 2 HP ?_
          | refine sdNR (r' := .tuple #[.agg #[.int .i64 ver', .string id', .bool kn', .int .i64 mv', .int .i64 ms', .int .i64 mg', .int .i64 mq', .slice (some ⟨12, 0, none⟩) L'.length L'.length, .string data', .int .u64 bits', .slice (some ⟨13, 0, none⟩) P'.length P'.length], .bool e, .int .i64 0]) (N := [some ⟨List.map Value.string L', true, 1⟩, some ⟨List.map Value.string P', true, 1⟩]) [10, 11] 2 HE ?_
          | refine stm ?_
          | refine run_want rfl rfl ?_
          | refine run_unwant rfl rfl ?_
          | refine run_undef rfl rfl ?_
          | refine run_guard1t rfl rfl (by omega) ?_
          | refine run_guard1f rfl rfl (by omega) ?_
          | refine run_guard0t rfl rfl (by omega) ?_
          | refine run_guard0f rfl rfl (by omega) ?_
          | refine run_guard1 rfl rfl (fun h1 => ?_) (fun h1 => ?_)
          | refine run_guard0 rfl rfl (fun h1 => ?_) (fun h1 => ?_)
          | refine run_guard rfl rfl (fun h1 => ?_) (fun h1 => ?_)
          | refine run_nil ?_
          | refine sd ?_
          | refine sdl ?_
          | refine sdm (n := 1) ?_
          | refine sdm ?_
          | refine sdb ?_
          | refine rund_want rfl rfl ?_
          | refine rund_unwant rfl rfl ?_
          | refine rund_undef rfl rfl ?_
          | refine rund_guard1 rfl rfl (fun h1 => ?_) (fun h1 => ?_)
          | refine rund_guard0 rfl rfl (fun h1 => ?_) (fun h1 => ?_)
          | refine rund_guard rfl rfl (fun h1 => ?_) (fun h1 => ?_)
          | refine rund_nil ?_
          | refine aw_seq ?_
          | refine aw_region (by kernel_rfl) (Nat.le_of_ble_eq_true rfl) ?_
          | refine aw_region_dC (id := 2) [0, 1, 0, 7, 15, 31, 31, 63, 255] 9 (by (repeat constructor)) (by kernel_rfl) (by kernel_rfl) (by kernel_rfl) (by rfl) ?_
          | refine aw_region_dC (id := 9) [0, 1, 0, 7, 15, 31, 31, 31, 0, 319, 895, 2047] 9 (by (repeat constructor)) (by kernel_rfl) (by kernel_rfl) (by kernel_rfl) (by rfl) ?_
          | refine aw_block ?_
          | refine aw_cond_t rfl ?_
          | refine aw_cond_f rfl ?_
          | refine aw_cond_tp rfl (by omega) ?_
          | refine aw_cond_fp rfl (by omega) ?_
          | refine aw_cond1 rfl (fun h1 => ?_) (fun h1 => ?_)
          | refine aw_cond rfl (fun h1 => ?_) (fun h1 => ?_)
          | refine aw_skip ?_
          | refine aw_exit ?_
          | refine aw_ret ?_
          | refine pp_ret ?_
          | refine pp_normal ?_
        all_goals first
          | exact Exists.intro ⟨i + 1, ⟨ver, id, kn, mv, ms, mg, mq, L, data, bits, P⟩, r⟩ ⟨fitsD [0, 1, 2, 3, 4, 5, 6, 7, 8], g4, by dsimp only; omega⟩
          | (exfalso; omega)
      · have st1 := st1 (by rw [decide_eq_false hi0, decide_eq_true hz0]; rfl)
        have g4 : i + 1 ≤ m ∧ s' = R (i + 1) ∧ (h0 < ((i + 1 : Nat) : Int) → true = true) := ⟨hi, st1.symm, fun _ => rfl⟩
        clear st1 st0 hsE g3
        obtain ⟨ver, id, kn, mv, ms, mg, mq, L, data, bits, P⟩ := s
        obtain ⟨ver', id', kn', mv', ms', mg', mq', L', data', bits', P'⟩ := s'
        dsimp only at HP HE b1 b2 b3 b4 g4 ⊢
        repeat' first
          | refine st (h := ok_load_rowsE (f := updC) (cs := [.int .i64 uk, .int .i64 uv, .string ui, .int .i64 up, .int .i64 ut, .int .u64 ub, .string ud]) i (fun _ => rfl) hq rfl rfl rfl rfl (by omega)) ?_
          | refine st (v := .int .i64 h0) (h := by (rw [← hh1]; exact ok_rem_pos rfl rfl (by omega))) ?_
          | refine sd (v := .int .i64 h0) (h := by (rw [← hh1]; exact ok_rem_pos rfl rfl (by omega))) ?_
          | refine st (v := .int .i64 w) (h := by (rw [← hw]; exact ok_rem_pos rfl rfl (by omega))) ?_
          | refine sd (v := .int .i64 w) (h := by (rw [← hw]; exact ok_rem_pos rfl rfl (by omega))) ?_
          | refine st (v := .int .u8 y) (h := by (rw [← hy]; exact ok_shr rfl rfl (by omega))) ?_
          | refine sd (v := .int .u8 y) (h := by (rw [← hy]; exact ok_shr rfl rfl (by omega))) ?_
          | refine st (v := .int .u8 z) (h := by (rw [← hz]; exact ok_and rfl rfl)) ?_
          | refine sd (v := .int .u8 z) (h := by (rw [← hz]; exact ok_and rfl rfl)) ?_
          | refine st ?_
          | refine sdNR (r' := .agg #[.int .i64 ver, .string id, .bool kn, .int .i64 mv, .int .i64 ms, .int .i64 mg, .int .i64 mq, .slice (some ⟨10, 0, none⟩) L.length L.length, .string data, .int .u64 bits, .slice (some ⟨11, 0, none⟩) P.length P.length]) (N := [some ⟨List.map Value.string L, true, 1⟩, some ⟨List.map Value.string P, true, 1⟩]) [7, 8] 2 HP ?_
          | refine sdNR (r' := .tuple #[.agg #[.int .i64 ver', .string id', .bool kn', .int .i64 mv', .int .i64 ms', .int .i64 mg', .int .i64 mq', .slice (some ⟨12, 0, none⟩) L'.length L'.length, .string data', .int .u64 bits', .slice (some ⟨13, 0, none⟩) P'.length P'.length], .bool e, .int .i64 0]) (N := [some ⟨List.map Value.string L', true, 1⟩, some ⟨List.map Value.string P', true, 1⟩]) [10, 11] 2 HE ?_
          | refine stm ?_
          | refine run_want rfl rfl ?_
          | refine run_unwant rfl rfl ?_
          | refine run_undef rfl rfl ?_
          | refine run_guard1t rfl rfl (by omega) ?_
          | refine run_guard1f rfl rfl (by omega) ?_
          | refine run_guard0t rfl rfl (by omega) ?_
          | refine run_guard0f rfl rfl (by omega) ?_
          | refine run_guard1 rfl rfl (fun h1 => ?_) (fun h1 => ?_)
          | refine run_guard0 rfl rfl (fun h1 => ?_) (fun h1 => ?_)
          | refine run_guard rfl rfl (fun h1 => ?_) (fun h1 => ?_)
          | refine run_nil ?_
          | refine sd ?_
          | refine sdl ?_
          | refine sdm (n := 1) ?_
          | refine sdm ?_
          | refine sdb ?_
          | refine rund_want rfl rfl ?_
          | refine rund_unwant rfl rfl ?_
          | refine rund_undef rfl rfl ?_
          | refine rund_guard1 rfl rfl (fun h1 => ?_) (fun h1 => ?_)
          | refine rund_guard0 rfl rfl (fun h1 => ?_) (fun h1 => ?_)
          | refine rund_guard rfl rfl (fun h1 => ?_) (fun h1 => ?_)
          | refine rund_nil ?_
          | refine aw_seq ?_
          | refine aw_region (by kernel_rfl) (Nat.le_of_ble_eq_true rfl) ?_
          | refine aw_region_dC (id := 2) [0, 1, 0, 7, 15, 31, 31, 63, 255] 9 (by (repeat constructor)) (by kernel_rfl) (by kernel_rfl) (by kernel_rfl) (by rfl) ?_
          | refine aw_region_dC (id := 9) [0, 1, 0, 7, 15, 31, 31, 31, 0, 319, 895, 2047] 9 (by (repeat constructor)) (by kernel_rfl) (by kernel_rfl) (by kernel_rfl) (by rfl) ?_
          | refine aw_block ?_
          | refine aw_cond_t rfl ?_
          | refine aw_cond_f rfl ?_
          | refine aw_cond_tp rfl (by omega) ?_
          | refine aw_cond_fp rfl (by omega) ?_
          | refine aw_cond1 rfl (fun h1 => ?_) (fun h1 => ?_)
          | refine aw_cond rfl (fun h1 => ?_) (fun h1 => ?_)
          | refine aw_skip ?_
          | refine aw_exit ?_
          | refine aw_ret ?_
          | refine pp_ret ?_
          | refine pp_normal ?_
        all_goals first
        | exact Exists.intro ⟨i + 1, ⟨ver', id', kn', mv', ms', mg', mq', L', data', bits', P'⟩, true⟩ ⟨fitsD [0, 1, 2, 3, 4, 5, 6, 12, 13], g4, by dsimp only; omega⟩
        | (exfalso; omega)
  · obtain rfl : i = m := by omega
    obtain rfl : r = true := g3 (by omega)
    rw [hsE] at g2
    subst g2
    clear g3 hst1 hst0 l8 l3
    obtain ⟨ver, id, kn, mv, ms, mg, mq, L, data, bits, P⟩ := s
    dsimp only
    repeat' first
      | refine st ?_
      | refine stm ?_
      | refine run_want rfl rfl ?_
      | refine run_unwant rfl rfl ?_
      | refine run_undef rfl rfl ?_
      | refine run_guard1t rfl rfl (by omega) ?_
      | refine run_guard1f rfl rfl (by omega) ?_
      | refine run_guard0t rfl rfl (by omega) ?_
      | refine run_guard0f rfl rfl (by omega) ?_
      | refine run_guard1 rfl rfl (fun h1 => ?_) (fun h1 => ?_)
      | refine run_guard0 rfl rfl (fun h1 => ?_) (fun h1 => ?_)
      | refine run_guard rfl rfl (fun h1 => ?_) (fun h1 => ?_)
      | refine run_nil ?_
      | refine sd ?_
      | refine sdl ?_
      | refine sdm (n := 1) ?_
      | refine sdm ?_
      | refine sdb ?_
      | refine rund_want rfl rfl ?_
      | refine rund_unwant rfl rfl ?_
      | refine rund_undef rfl rfl ?_
      | refine rund_guard1 rfl rfl (fun h1 => ?_) (fun h1 => ?_)
      | refine rund_guard0 rfl rfl (fun h1 => ?_) (fun h1 => ?_)
      | refine rund_guard rfl rfl (fun h1 => ?_) (fun h1 => ?_)
      | refine rund_nil ?_
      | refine aw_seq ?_
      | refine aw_region (by kernel_rfl) (Nat.le_of_ble_eq_true rfl) ?_
      | refine aw_region_dC (id := 2) [0, 1, 0, 7, 15, 31, 31, 63, 255] 9 (by (repeat constructor)) (by kernel_rfl) (by kernel_rfl) (by kernel_rfl) (by rfl) ?_
      | refine aw_region_dC (id := 9) [0, 1, 0, 7, 15, 31, 31, 31, 0, 319, 895, 2047] 9 (by (repeat constructor)) (by kernel_rfl) (by kernel_rfl) (by kernel_rfl) (by rfl) ?_
      | refine aw_block ?_
      | refine aw_cond_t rfl ?_
      | refine aw_cond_f rfl ?_
      | refine aw_cond_tp rfl (by omega) ?_
      | refine aw_cond_fp rfl (by omega) ?_
      | refine aw_cond1 rfl (fun h1 => ?_) (fun h1 => ?_)
      | refine aw_cond rfl (fun h1 => ?_) (fun h1 => ?_)
      | refine aw_skip ?_
      | refine aw_exit ?_
      | refine aw_ret ?_
      | refine pp_ret ?_
      | refine pp_normal ?_
    all_goals first
      | exact pm_ret _ (renumD [0, 1, 2, 3, 7, 8]) rfl
      | (exfalso; omega)
end Go.Proofs.Ytekkdoaakilafaa
