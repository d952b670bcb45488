/- ImageMakes: the law. -/
import Derived.Test.YtpofbjmmlommoaaL0
import Derived.Test.YtpofbjmmlommoaaT1
set_option linter.unusedVariables false
set_option linter.unusedSimpArgs false
namespace Go.Proofs.Ytpofbjmmlommoaa
open Go Av
set_option maxRecDepth 20000
theorem ok_lssD {P : Program} {ρ : Operand → Option Value} {m : Mem} {dd : Option Tmp} {t : TypeId} {pp : String} {af : Array Edge} {g : Option (Nat × Bool)} {xt yt : TypeId} {x y : Operand} {k : IntKind} {a b : Int} {c : Bool} (hx : ρ x = some (.int k a)) (hy : ρ y = some (.int k b)) (h : decide (a < b) = c) : OpOK P ⟨dd, .binOp .lss xt x y yt, t, pp, af, g⟩ ρ m (.bool c) m := by
  subst h
  exact ok_lss hx hy
theorem ok_gtrD {P : Program} {ρ : Operand → Option Value} {m : Mem} {dd : Option Tmp} {t : TypeId} {pp : String} {af : Array Edge} {g : Option (Nat × Bool)} {xt yt : TypeId} {x y : Operand} {k : IntKind} {a b : Int} {c : Bool} (hx : ρ x = some (.int k a)) (hy : ρ y = some (.int k b)) (h : decide (b < a) = c) : OpOK P ⟨dd, .binOp .gtr xt x y yt, t, pp, af, g⟩ ρ m (.bool c) m := by
  subst h
  exact ok_gtr hx hy
set_option maxHeartbeats 16000000 in
theorem law_makes (v : Int) (d : ByteArray) (pg pk : Int) : ACalls Try.prog 3 [.int .i64 v, .string d, .int .i64 pg, .int .i64 pk] [] (.bool true) [] := by
  obtain ⟨b1, h1⟩ : ∃ b, decide ((d.size : Int) < 65536) = b := ⟨_, rfl⟩
  obtain ⟨b2, h2⟩ : ∃ b, decide ((65538 : Int) < d.size) = b := ⟨_, rfl⟩
  obtain ⟨b3, h3⟩ : ∃ b, decide ((1000 : Int) < d.size) = b := ⟨_, rfl⟩
  have k3 : b3 = true ↔ (1000 : Int) < d.size := by rw [← h3, decide_eq_true_eq]
  have k1 : b1 = true ↔ (d.size : Int) < 65536 := by rw [← h1, decide_eq_true_eq]
  have k2 : b2 = true ↔ (65538 : Int) < d.size := by rw [← h2, decide_eq_true_eq]
  by_cases hs : (b3 = true ∧ b1 = true) ∨ b2 = true
  · cases b1 <;> cases b2 <;> cases b3 <;> simp only [true_iff, false_iff, Bool.false_eq_true] at k1 k2 k3
    all_goals try (exfalso; simp at hs; done)
    all_goals refine acalls_law Try.func3 rfl rfl rfl ?_
    repeat' first
      | refine st (h := ok_not_dec2 rfl) ?_
      | refine st (h := ok_lssD rfl rfl h1) ?_
      | refine st (h := ok_gtrD rfl rfl h2) ?_
      | refine st (h := ok_gtrD rfl rfl h3) ?_
      | refine st ?_
      | refine st_call (ac_awake) ?_
      | refine stm ?_
      | refine run_want rfl rfl ?_
      | refine run_unwant rfl rfl ?_
      | refine run_undef rfl rfl ?_
      | refine run_guard1t rfl rfl (by omega) ?_
      | refine run_guard1f rfl rfl (by omega) ?_
      | refine run_guard0t rfl rfl (by omega) ?_
      | refine run_guard0f rfl rfl (by omega) ?_
      | refine run_guard1 rfl rfl (fun h1 => ?_) (fun h1 => ?_)
      | refine run_guard0 rfl rfl (fun h1 => ?_) (fun h1 => ?_)
      | refine run_guard rfl rfl (fun h1 => ?_) (fun h1 => ?_)
      | refine run_nil ?_
      | refine aw_seq ?_
      | refine aw_region (by kernel_rfl) (Nat.le_of_ble_eq_true rfl) ?_
      | refine aw_block ?_
      | refine aw_cond_t rfl ?_
      | refine aw_cond_f rfl ?_
      | refine aw_cond_tp rfl (by omega) ?_
      | refine aw_cond_fp rfl (by omega) ?_
      | refine aw_cond1 rfl (fun h1 => ?_) (fun h1 => ?_)
      | refine aw_cond rfl (fun h1 => ?_) (fun h1 => ?_)
      | refine aw_skip ?_
      | refine aw_exit ?_
      | refine aw_ret ?_
      | refine pp_ret ?_
      | refine pp_normal ?_
    all_goals first
      | rfl
      | (exfalso; omega)
      | (simp [retOf]; done)
      | (exfalso; simp_all; done)
  · have hs2 : b2 = false ∧ (b1 = true → b3 = false) := ⟨by cases b2; rfl; exact absurd (.inr rfl) hs, fun h => by cases b3; rfl; exact absurd (.inl ⟨rfl, h⟩) hs⟩
    obtain ⟨rfl, hs3⟩ := hs2
    simp only [Bool.false_eq_true, false_iff] at k2
    obtain ⟨e, he⟩ : ∃ e, mkE v d pg pk = e := ⟨_, rfl⟩
    obtain ⟨N, hN⟩ : ∃ N, mkN d pg = N := ⟨_, rfl⟩
    have H1 := ac_make v d pg pk (by omega) e he N hN
    have H2 := ac_rmake v d pg pk (by omega) e he N hN
    by_cases he0 : e = 0
    · subst he0
      rw [if_neg (by decide), if_neg (by decide)] at H1 H2
      have hlen := mkL_len v d pg N
      have hNb : N ≤ 100000000 := by
        by_cases hp : 1 ≤ pg
        · have h3 : (N : Int) ≤ d.size := by
            rcases Nat.eq_zero_or_pos N with h0 | h0
            · omega
            · have h2 := (mkN_lt (d := d) hp (N - 1)).1 (by rw [hN]; omega)
              have h4 : ((N - 1 : Nat) : Int) * 1 ≤ ((N - 1 : Nat) : Int) * pg := Int.mul_le_mul_of_nonneg_left hp (by omega)
              omega
          omega
        · exfalso
          unfold mkE at he
          split at he
          · omega
          · rename_i hsz
            have := siz_bd (by simpa using hsz)
            omega
      generalize mkL v d pg N = L at H1 H2 hlen
      have H3 := ac_same v d.size pg pk v d.size pg pk L L N N hlen hlen (by omega) (by omega) true (decide_eq_true ⟨rfl, rfl, rfl, rfl, rfl⟩)
      clear he hN
      cases b1 <;> cases b3 <;> simp only [true_iff, false_iff, Bool.false_eq_true, forall_const, false_implies] at k1 k3 hs3
      all_goals try (exfalso; omega)
      all_goals refine acalls_law Try.func3 rfl rfl rfl ?_
      repeat' first
        | refine st (h := ok_not_dec2 rfl) ?_
        | refine st (h := ok_lssD rfl rfl h1) ?_
        | refine st (h := ok_gtrD rfl rfl h2) ?_
        | refine st (h := ok_gtrD rfl rfl h3) ?_
        | refine st ?_
        | refine st_call (ac_awake) ?_
        | refine stMW [] H1 ?_
        | refine stMW [] H2 ?_
        | refine stRW [0, 2] H3 ?_
        | refine sdRW [0, 2] H3 ?_
        | refine stm ?_
        | refine run_want rfl rfl ?_
        | refine run_unwant rfl rfl ?_
        | refine run_undef rfl rfl ?_
        | refine run_guard1t rfl rfl (by omega) ?_
        | refine run_guard1f rfl rfl (by omega) ?_
        | refine run_guard0t rfl rfl (by omega) ?_
        | refine run_guard0f rfl rfl (by omega) ?_
        | refine run_guard1 rfl rfl (fun h1 => ?_) (fun h1 => ?_)
        | refine run_guard0 rfl rfl (fun h1 => ?_) (fun h1 => ?_)
        | refine run_guard rfl rfl (fun h1 => ?_) (fun h1 => ?_)
        | refine run_nil ?_
        | refine aw_seq ?_
        | refine aw_region (by kernel_rfl) (Nat.le_of_ble_eq_true rfl) ?_
        | refine aw_block ?_
        | refine aw_cond_t rfl ?_
        | refine aw_cond_f rfl ?_
        | refine aw_cond_tp rfl (by omega) ?_
        | refine aw_cond_fp rfl (by omega) ?_
        | refine aw_cond1 rfl (fun h1 => ?_) (fun h1 => ?_)
        | refine aw_cond rfl (fun h1 => ?_) (fun h1 => ?_)
        | refine aw_skip ?_
        | refine aw_exit ?_
        | refine aw_ret ?_
        | refine pp_ret ?_
        | refine pp_normal ?_
      all_goals first
        | rfl
        | (exfalso; omega)
        | (simp [retOf]; done)
        | (exfalso; simp_all; done)
    · rw [if_pos he0, if_pos he0] at H1 H2
      have H3 := ac_same 0 0 0 0 0 0 0 0 [] [] 0 0 rfl rfl (by decide) (by decide) true (decide_eq_true ⟨rfl, rfl, rfl, rfl, rfl⟩)
      clear he hN
      cases b1 <;> cases b3 <;> simp only [true_iff, false_iff, Bool.false_eq_true, forall_const, false_implies] at k1 k3 hs3
      all_goals try (exfalso; omega)
      all_goals refine acalls_law Try.func3 rfl rfl rfl ?_
      repeat' first
        | refine st (h := ok_not_dec2 rfl) ?_
        | refine st (h := ok_lssD rfl rfl h1) ?_
        | refine st (h := ok_gtrD rfl rfl h2) ?_
        | refine st (h := ok_gtrD rfl rfl h3) ?_
        | refine st ?_
        | refine st_call (ac_awake) ?_
        | refine stMW [] H1 ?_
        | refine stMW [] H2 ?_
        | refine stRW [0, 2] H3 ?_
        | refine sdRW [0, 2] H3 ?_
        | refine stm ?_
        | refine run_want rfl rfl ?_
        | refine run_unwant rfl rfl ?_
        | refine run_undef rfl rfl ?_
        | refine run_guard1t rfl rfl (by omega) ?_
        | refine run_guard1f rfl rfl (by omega) ?_
        | refine run_guard0t rfl rfl (by omega) ?_
        | refine run_guard0f rfl rfl (by omega) ?_
        | refine run_guard1 rfl rfl (fun h1 => ?_) (fun h1 => ?_)
        | refine run_guard0 rfl rfl (fun h1 => ?_) (fun h1 => ?_)
        | refine run_guard rfl rfl (fun h1 => ?_) (fun h1 => ?_)
        | refine run_nil ?_
        | refine aw_seq ?_
        | refine aw_region (by kernel_rfl) (Nat.le_of_ble_eq_true rfl) ?_
        | refine aw_block ?_
        | refine aw_cond_t rfl ?_
        | refine aw_cond_f rfl ?_
        | refine aw_cond_tp rfl (by omega) ?_
        | refine aw_cond_fp rfl (by omega) ?_
        | refine aw_cond1 rfl (fun h1 => ?_) (fun h1 => ?_)
        | refine aw_cond rfl (fun h1 => ?_) (fun h1 => ?_)
        | refine aw_skip ?_
        | refine aw_exit ?_
        | refine aw_ret ?_
        | refine pp_ret ?_
        | refine pp_normal ?_
      all_goals first
        | rfl
        | (exfalso; omega)
        | (simp [retOf]; done)
        | (exfalso; simp_all; done)
end Go.Proofs.Ytpofbjmmlommoaa
