/- Frames: Check (kinds 3, 4). -/
import Derived.Test.YtdenooeaiicheaaGreatVL
import Derived.Test.YtdenooeaiicheaaGreatF1
set_option linter.unusedVariables false
set_option linter.unusedSimpArgs false
namespace Go.Proofs.YtdenooeaiicheaaGreat
open Go Av
set_option maxRecDepth 20000
set_option maxHeartbeats 16000000 in
theorem ac_fck3 (sr tg li sq fl nu er sx rk ep : Int) (dt : ByteArray) : ∃ e, ACalls Tryz.prog 54 [.agg #[.int .i64 3, .int .i64 sr, .int .i64 tg, .int .i64 li, .int .i64 sq, .int .i64 fl, .int .i64 nu, .int .i64 er, .int .i64 sx, .int .i64 rk, .int .i64 ep, .string dt]] [] (.int .i64 e) [] ∧ (e = 0 → (0 ≤ sr ∧ sr ≤ 31) ∧ (-1 ≤ tg ∧ tg ≤ 31) ∧ (0 ≤ li ∧ li ≤ 255) ∧ (0 ≤ sq ∧ sq ≤ 255) ∧ (0 ≤ fl ∧ fl ≤ 255) ∧ (0 ≤ nu ∧ nu ≤ 65535) ∧ (-32768 ≤ er ∧ er ≤ 32767) ∧ (0 ≤ sx ∧ sx ≤ 109951162) ∧ (0 ≤ rk ∧ rk ≤ 65535) ∧ (0 ≤ ep ∧ ep ≤ 65535)) := by
  obtain ⟨x, hx⟩ : ∃ x, decide (tg = -1 ∧ (0 ≤ sx ∧ sx ≤ 109951162) ∧ (0 ≤ rk ∧ rk ≤ 65535) ∧ (0 ≤ ep ∧ ep ≤ 65535)) = x := ⟨_, rfl⟩
  have H := ac_fields3 sr tg li sq fl nu er sx rk ep dt x hx
  obtain ⟨yS, hyS⟩ : ∃ y, decide (0 ≤ sr ∧ sr ≤ 31) = y := ⟨_, rfl⟩
  have HS := ac_fin sr 31 yS hyS
  obtain ⟨yL, hyL⟩ : ∃ y, decide (0 ≤ li ∧ li ≤ 255) = y := ⟨_, rfl⟩
  have HL := ac_fin li 255 yL hyL
  obtain ⟨yQ, hyQ⟩ : ∃ y, decide (0 ≤ sq ∧ sq ≤ 255) = y := ⟨_, rfl⟩
  have HQ := ac_fin sq 255 yQ hyQ
  cases x
  · refine ⟨1, ?_, fun h => absurd h (by decide)⟩
    clear hx hyS hyL hyQ
    refine acalls_law Tryz.func54 rfl rfl rfl ?_
    repeat' first | refine st ?_ | refine st_call (H) ?_ | refine stm ?_ | refine Jb ?_ | refine run_nil ?_ | refine Jz ?_ | refine Jw ?_ | refine Jq ?_ | refine aw_ret ?_ | refine pp_ret ?_
    all_goals first | rfl
  have hx := of_decide_eq_true hx
  by_cases q_fl : fl = 0
  rotate_left
  · refine ⟨1, ?_, fun h => absurd h (by decide)⟩
    clear hx hyS hyL hyQ
    refine acalls_law Tryz.func54 rfl rfl rfl ?_
    repeat' first | refine st ?_ | refine st_call (H) ?_ | refine stm ?_ | refine Ja ?_ | refine Jb ?_ | refine Jg ?_ | refine run_nil ?_ | refine Jz ?_ | refine Jw ?_ | refine Jq ?_ | refine aw_ret ?_ | refine pp_ret ?_
    all_goals first | rfl
  subst q_fl
  by_cases q_nu : nu = 0
  rotate_left
  · refine ⟨1, ?_, fun h => absurd h (by decide)⟩
    clear hx hyS hyL hyQ
    refine acalls_law Tryz.func54 rfl rfl rfl ?_
    repeat' first | refine st ?_ | refine st_call (H) ?_ | refine stm ?_ | refine Ja ?_ | refine Jb ?_ | refine Jg ?_ | refine run_nil ?_ | refine Jz ?_ | refine Jw ?_ | refine Jq ?_ | refine aw_ret ?_ | refine pp_ret ?_
    all_goals first | rfl
  subst q_nu
  by_cases q_er : er = 0
  rotate_left
  · refine ⟨1, ?_, fun h => absurd h (by decide)⟩
    clear hx hyS hyL hyQ
    refine acalls_law Tryz.func54 rfl rfl rfl ?_
    repeat' first | refine st ?_ | refine st_call (H) ?_ | refine stm ?_ | refine Ja ?_ | refine Jb ?_ | refine Jg ?_ | refine run_nil ?_ | refine Jz ?_ | refine Jw ?_ | refine Jq ?_ | refine aw_ret ?_ | refine pp_ret ?_
    all_goals first | rfl
  subst q_er
  cases yS
  · refine ⟨1, ?_, fun h => absurd h (by decide)⟩
    clear hx hyS hyL hyQ
    refine acalls_law Tryz.func54 rfl rfl rfl ?_
    repeat' first | intro h1 | refine st ?_ | refine st_call (H) ?_ | refine st_call (HS) ?_ | refine stm ?_ | refine Ja ?_ | refine Jb ?_ | refine Ji ?_ ?_ | refine run_nil ?_ | refine Jz ?_ | refine Jw ?_ | refine Jq ?_ | refine aw_ret ?_ | refine pp_ret ?_
    all_goals first | rfl
  cases yL
  · refine ⟨1, ?_, fun h => absurd h (by decide)⟩
    clear hx hyS hyL hyQ
    refine acalls_law Tryz.func54 rfl rfl rfl ?_
    repeat' first | intro h1 | refine st ?_ | refine st_call (H) ?_ | refine st_call (HS) ?_ | refine st_call (HL) ?_ | refine stm ?_ | refine Ja ?_ | refine Jb ?_ | refine Ji ?_ ?_ | refine run_nil ?_ | refine Jz ?_ | refine Jw ?_ | refine Jq ?_ | refine aw_ret ?_ | refine pp_ret ?_
    all_goals first | rfl
  cases yQ
  · refine ⟨1, ?_, fun h => absurd h (by decide)⟩
    clear hx hyS hyL hyQ
    refine acalls_law Tryz.func54 rfl rfl rfl ?_
    repeat' first | intro h1 | refine st ?_ | refine st_call (H) ?_ | refine st_call (HS) ?_ | refine st_call (HL) ?_ | refine st_call (HQ) ?_ | refine stm ?_ | refine Ja ?_ | refine Jb ?_ | refine Ji ?_ ?_ | refine run_nil ?_ | refine Jz ?_ | refine Jw ?_ | refine Jq ?_ | refine aw_ret ?_ | refine pp_ret ?_
    all_goals first | rfl
  have hyS := of_decide_eq_true hyS
  have hyL := of_decide_eq_true hyL
  have hyQ := of_decide_eq_true hyQ
  refine ⟨0, ?_, fun _ => by omega⟩
  clear hx hyS hyL hyQ
  refine acalls_law Tryz.func54 rfl rfl rfl ?_
  repeat' first | intro h1 | refine st ?_ | refine st_call (H) ?_ | refine st_call (HS) ?_ | refine st_call (HL) ?_ | refine st_call (HQ) ?_ | refine stm ?_ | refine Ja ?_ | refine Jb ?_ | refine Ji ?_ ?_ | refine run_nil ?_ | refine Jz ?_ | refine Jw ?_ | refine Jq ?_ | refine Jr ?_ | refine Jy ?_ | refine aw_ret ?_ | refine pp_ret ?_
  all_goals first | rfl | (exfalso; simp only [Bool.not_eq_true', Bool.not_eq_false', decide_eq_true_eq, decide_eq_false_iff_not, Bool.not_false, Bool.not_true, eq_self, true_and, and_true, Classical.not_not, not_true_eq_false, not_false_eq_true] at *; first | (exact absurd rfl (by assumption)) | contradiction | omega)
set_option maxHeartbeats 16000000 in
theorem ac_fck4 (sr tg li sq fl nu er sx rk ep : Int) (dt : ByteArray) : ∃ e, ACalls Tryz.prog 54 [.agg #[.int .i64 4, .int .i64 sr, .int .i64 tg, .int .i64 li, .int .i64 sq, .int .i64 fl, .int .i64 nu, .int .i64 er, .int .i64 sx, .int .i64 rk, .int .i64 ep, .string dt]] [] (.int .i64 e) [] ∧ (e = 0 → (0 ≤ sr ∧ sr ≤ 31) ∧ (-1 ≤ tg ∧ tg ≤ 31) ∧ (0 ≤ li ∧ li ≤ 255) ∧ (0 ≤ sq ∧ sq ≤ 255) ∧ (0 ≤ fl ∧ fl ≤ 255) ∧ (0 ≤ nu ∧ nu ≤ 65535) ∧ (-32768 ≤ er ∧ er ≤ 32767) ∧ (0 ≤ sx ∧ sx ≤ 109951162) ∧ (0 ≤ rk ∧ rk ≤ 65535) ∧ (0 ≤ ep ∧ ep ≤ 65535)) := by
  obtain ⟨x, hx⟩ : ∃ x, decide (tg = -1 ∨ (((0 ≤ tg ∧ tg ≤ 31) ∧ tg ≠ sr))) = x := ⟨_, rfl⟩
  have H := ac_fields4 sr tg li sq fl nu er sx rk ep dt x hx
  obtain ⟨yS, hyS⟩ : ∃ y, decide (0 ≤ sr ∧ sr ≤ 31) = y := ⟨_, rfl⟩
  have HS := ac_fin sr 31 yS hyS
  obtain ⟨yL, hyL⟩ : ∃ y, decide (0 ≤ li ∧ li ≤ 255) = y := ⟨_, rfl⟩
  have HL := ac_fin li 255 yL hyL
  obtain ⟨yQ, hyQ⟩ : ∃ y, decide (0 ≤ sq ∧ sq ≤ 255) = y := ⟨_, rfl⟩
  have HQ := ac_fin sq 255 yQ hyQ
  cases x
  · refine ⟨1, ?_, fun h => absurd h (by decide)⟩
    clear hx hyS hyL hyQ
    refine acalls_law Tryz.func54 rfl rfl rfl ?_
    repeat' first | refine st ?_ | refine st_call (H) ?_ | refine stm ?_ | refine Jb ?_ | refine run_nil ?_ | refine Jz ?_ | refine Jw ?_ | refine Jq ?_ | refine aw_ret ?_ | refine pp_ret ?_
    all_goals first | rfl
  have hx := of_decide_eq_true hx
  by_cases q_fl : fl = 0
  rotate_left
  · refine ⟨1, ?_, fun h => absurd h (by decide)⟩
    clear hx hyS hyL hyQ
    refine acalls_law Tryz.func54 rfl rfl rfl ?_
    repeat' first | refine st ?_ | refine st_call (H) ?_ | refine stm ?_ | refine Ja ?_ | refine Jb ?_ | refine Jg ?_ | refine run_nil ?_ | refine Jz ?_ | refine Jw ?_ | refine Jq ?_ | refine aw_ret ?_ | refine pp_ret ?_
    all_goals first | rfl
  subst q_fl
  by_cases q_nu : nu = 0
  rotate_left
  · refine ⟨1, ?_, fun h => absurd h (by decide)⟩
    clear hx hyS hyL hyQ
    refine acalls_law Tryz.func54 rfl rfl rfl ?_
    repeat' first | refine st ?_ | refine st_call (H) ?_ | refine stm ?_ | refine Ja ?_ | refine Jb ?_ | refine Jg ?_ | refine run_nil ?_ | refine Jz ?_ | refine Jw ?_ | refine Jq ?_ | refine aw_ret ?_ | refine pp_ret ?_
    all_goals first | rfl
  subst q_nu
  by_cases q_er : er = 0
  rotate_left
  · refine ⟨1, ?_, fun h => absurd h (by decide)⟩
    clear hx hyS hyL hyQ
    refine acalls_law Tryz.func54 rfl rfl rfl ?_
    repeat' first | refine st ?_ | refine st_call (H) ?_ | refine stm ?_ | refine Ja ?_ | refine Jb ?_ | refine Jg ?_ | refine run_nil ?_ | refine Jz ?_ | refine Jw ?_ | refine Jq ?_ | refine aw_ret ?_ | refine pp_ret ?_
    all_goals first | rfl
  subst q_er
  by_cases q_sx : sx = 0
  rotate_left
  · refine ⟨1, ?_, fun h => absurd h (by decide)⟩
    clear hx hyS hyL hyQ
    refine acalls_law Tryz.func54 rfl rfl rfl ?_
    repeat' first | refine st ?_ | refine st_call (H) ?_ | refine stm ?_ | refine Ja ?_ | refine Jb ?_ | refine Jg ?_ | refine run_nil ?_ | refine Jz ?_ | refine Jw ?_ | refine Jq ?_ | refine aw_ret ?_ | refine pp_ret ?_
    all_goals first | rfl
  subst q_sx
  by_cases q_rk : rk = 0
  rotate_left
  · refine ⟨1, ?_, fun h => absurd h (by decide)⟩
    clear hx hyS hyL hyQ
    refine acalls_law Tryz.func54 rfl rfl rfl ?_
    repeat' first | refine st ?_ | refine st_call (H) ?_ | refine stm ?_ | refine Ja ?_ | refine Jb ?_ | refine Jg ?_ | refine run_nil ?_ | refine Jz ?_ | refine Jw ?_ | refine Jq ?_ | refine aw_ret ?_ | refine pp_ret ?_
    all_goals first | rfl
  subst q_rk
  by_cases q_ep : ep = 0
  rotate_left
  · refine ⟨1, ?_, fun h => absurd h (by decide)⟩
    clear hx hyS hyL hyQ
    refine acalls_law Tryz.func54 rfl rfl rfl ?_
    repeat' first | refine st ?_ | refine st_call (H) ?_ | refine stm ?_ | refine Ja ?_ | refine Jb ?_ | refine Jg ?_ | refine run_nil ?_ | refine Jz ?_ | refine Jw ?_ | refine Jq ?_ | refine aw_ret ?_ | refine pp_ret ?_
    all_goals first | rfl
  subst q_ep
  cases yS
  · refine ⟨1, ?_, fun h => absurd h (by decide)⟩
    clear hx hyS hyL hyQ
    refine acalls_law Tryz.func54 rfl rfl rfl ?_
    repeat' first | intro h1 | refine st ?_ | refine st_call (H) ?_ | refine st_call (HS) ?_ | refine stm ?_ | refine Ja ?_ | refine Jb ?_ | refine Ji ?_ ?_ | refine run_nil ?_ | refine Jz ?_ | refine Jw ?_ | refine Jq ?_ | refine aw_ret ?_ | refine pp_ret ?_
    all_goals first | rfl
  cases yL
  · refine ⟨1, ?_, fun h => absurd h (by decide)⟩
    clear hx hyS hyL hyQ
    refine acalls_law Tryz.func54 rfl rfl rfl ?_
    repeat' first | intro h1 | refine st ?_ | refine st_call (H) ?_ | refine st_call (HS) ?_ | refine st_call (HL) ?_ | refine stm ?_ | refine Ja ?_ | refine Jb ?_ | refine Ji ?_ ?_ | refine run_nil ?_ | refine Jz ?_ | refine Jw ?_ | refine Jq ?_ | refine aw_ret ?_ | refine pp_ret ?_
    all_goals first | rfl
  cases yQ
  · refine ⟨1, ?_, fun h => absurd h (by decide)⟩
    clear hx hyS hyL hyQ
    refine acalls_law Tryz.func54 rfl rfl rfl ?_
    repeat' first | intro h1 | refine st ?_ | refine st_call (H) ?_ | refine st_call (HS) ?_ | refine st_call (HL) ?_ | refine st_call (HQ) ?_ | refine stm ?_ | refine Ja ?_ | refine Jb ?_ | refine Ji ?_ ?_ | refine run_nil ?_ | refine Jz ?_ | refine Jw ?_ | refine Jq ?_ | refine aw_ret ?_ | refine pp_ret ?_
    all_goals first | rfl
  have hyS := of_decide_eq_true hyS
  have hyL := of_decide_eq_true hyL
  have hyQ := of_decide_eq_true hyQ
  refine ⟨0, ?_, fun _ => by omega⟩
  clear hx hyS hyL hyQ
  refine acalls_law Tryz.func54 rfl rfl rfl ?_
  repeat' first | intro h1 | refine st ?_ | refine st_call (H) ?_ | refine st_call (HS) ?_ | refine st_call (HL) ?_ | refine st_call (HQ) ?_ | refine stm ?_ | refine Ja ?_ | refine Jb ?_ | refine Ji ?_ ?_ | refine run_nil ?_ | refine Jz ?_ | refine Jw ?_ | refine Jq ?_ | refine Jr ?_ | refine Jy ?_ | refine aw_ret ?_ | refine pp_ret ?_
  all_goals first | rfl | (exfalso; simp only [Bool.not_eq_true', Bool.not_eq_false', decide_eq_true_eq, decide_eq_false_iff_not, Bool.not_false, Bool.not_true, eq_self, true_and, and_true, Classical.not_not, not_true_eq_false, not_false_eq_true] at *; first | (exact absurd rfl (by assumption)) | contradiction | omega)
end Go.Proofs.YtdenooeaiicheaaGreat
