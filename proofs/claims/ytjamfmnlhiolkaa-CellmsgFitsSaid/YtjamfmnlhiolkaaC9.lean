/- Bits: the reference writes flags and texts. -/
import Derived.Test.YtjamfmnlhiolkaaC8
import Derived.Test.YtjamfmnlhiolkaaC7
set_option linter.unusedVariables false
set_option linter.unusedSimpArgs false
namespace Go.Proofs.Ytjamfmnlhiolkaa
open Go Av
set_option maxRecDepth 20000
theorem ac_rflag (v : Bool) (e e' : Int) (bs bs' : List Int) (n n' : Nat) (hn : n = bs.length) (hst : flgW bs e v = (bs', e')) (hn' : n' = bs'.length) (hl : bs.length ≤ 524288) :
    ACalls Try.prog 37 [.pointer (some ⟨0, 0, none⟩), .bool v] [some ⟨[.slice (some ⟨1, 0, none⟩) n n, .int .i64 e], true, 1⟩, some ⟨List.map (Value.int .u8) bs, true, 1⟩] (.tuple #[]) [some ⟨[.slice (some ⟨2, 0, none⟩) n' n', .int .i64 e'], true, 1⟩, none, some ⟨List.map (Value.int .u8) bs', true, 1⟩] := by
  unfold flgW fieldW at hst
  by_cases he : e = 0
  · subst he
    rw [if_neg (by simp), if_neg (by simp), if_neg (by simp)] at hst
    by_cases hs : bs.length + (1 : Int) > 524288
    · rw [if_pos hs] at hst
      obtain ⟨rfl, rfl⟩ := Prod.mk.inj hst
      have HR := ac_roomF 1 bs n hn (by omega) hs hl
      subst hn hn'
      refine acalls_of_aw Try.func37 rfl rfl ?_
      repeat' first
        | refine st ?_
        | refine stMW [0, 1] HR ?_
        | refine stm ?_
        | refine run_want rfl rfl ?_
        | refine run_unwant rfl rfl ?_
        | refine run_undef rfl rfl ?_
        | refine run_guard1t rfl rfl (by omega) ?_
        | refine run_guard1f rfl rfl (by omega) ?_
        | refine run_guard0t rfl rfl (by omega) ?_
        | refine run_guard0f rfl rfl (by omega) ?_
        | refine run_guard1 rfl rfl (fun h1 => ?_) (fun h1 => ?_)
        | refine run_guard0 rfl rfl (fun h1 => ?_) (fun h1 => ?_)
        | refine run_guard rfl rfl (fun h1 => ?_) (fun h1 => ?_)
        | refine run_nil ?_
        | refine aw_seq ?_
        | refine aw_region (by kernel_rfl) (Nat.le_of_ble_eq_true rfl) ?_
        | refine aw_block ?_
        | refine aw_cond_t rfl ?_
        | refine aw_cond_f rfl ?_
        | refine aw_cond_tp rfl (by omega) ?_
        | refine aw_cond_fp rfl (by omega) ?_
        | refine aw_cond1 rfl (fun h1 => ?_) (fun h1 => ?_)
        | refine aw_cond rfl (fun h1 => ?_) (fun h1 => ?_)
        | refine aw_skip ?_
        | refine aw_exit ?_
        | refine aw_ret ?_
        | refine pp_ret ?_
        | refine pp_normal ?_
      all_goals first | exact pm_ret _ (renumD [0, 1, 1]) rfl | (exfalso; omega)
    · rw [if_neg hs] at hst
      obtain ⟨hb, rfl⟩ := Prod.mk.inj hst
      have HR := ac_roomT 1 bs n hn (by omega) hs hl
      have hl1 := congrArg List.length hb
      rw [List.length_append, bitsOf_len] at hl1
      cases v
      · have hb2 : bs ++ [0] = bs' := hb
        refine acalls_of_aw Try.func37 rfl rfl ?_
        repeat' first
          | refine st ?_
          | refine stMW [0, 1] HR ?_
          | refine stm ?_
          | refine run_want rfl rfl ?_
          | refine run_unwant rfl rfl ?_
          | refine run_undef rfl rfl ?_
          | refine run_guard1t rfl rfl (by omega) ?_
          | refine run_guard1f rfl rfl (by omega) ?_
          | refine run_guard0t rfl rfl (by omega) ?_
          | refine run_guard0f rfl rfl (by omega) ?_
          | refine run_guard1 rfl rfl (fun h1 => ?_) (fun h1 => ?_)
          | refine run_guard0 rfl rfl (fun h1 => ?_) (fun h1 => ?_)
          | refine run_guard rfl rfl (fun h1 => ?_) (fun h1 => ?_)
          | refine run_nil ?_
          | refine aw_seq ?_
          | refine aw_region (by kernel_rfl) (Nat.le_of_ble_eq_true rfl) ?_
          | refine aw_block ?_
          | refine aw_cond_t rfl ?_
          | refine aw_cond_f rfl ?_
          | refine aw_cond_tp rfl (by omega) ?_
          | refine aw_cond_fp rfl (by omega) ?_
          | refine aw_cond1 rfl (fun h1 => ?_) (fun h1 => ?_)
          | refine aw_cond rfl (fun h1 => ?_) (fun h1 => ?_)
          | refine aw_skip ?_
          | refine aw_exit ?_
          | refine aw_ret ?_
          | refine pp_ret ?_
          | refine pp_normal ?_
        all_goals (
          obtain rfl : n' = n + 1 := by rw [← hb2] at hn'; simp at hn'; omega
          refine pm_normal _ (renumD [0, 1, 3] (h4 := .blk rfl (WkL.refl _) rfl (.hole (.blk rfl (.ofEq (by refine Eq.trans ?_ (renL_map (fun _ => rfl) _).symm; rw [← hb2, List.map_append]; rfl)) rfl .nil)))) rfl)
      · have hb2 : bs ++ [1] = bs' := hb
        refine acalls_of_aw Try.func37 rfl rfl ?_
        repeat' first
          | refine st ?_
          | refine stMW [0, 1] HR ?_
          | refine stm ?_
          | refine run_want rfl rfl ?_
          | refine run_unwant rfl rfl ?_
          | refine run_undef rfl rfl ?_
          | refine run_guard1t rfl rfl (by omega) ?_
          | refine run_guard1f rfl rfl (by omega) ?_
          | refine run_guard0t rfl rfl (by omega) ?_
          | refine run_guard0f rfl rfl (by omega) ?_
          | refine run_guard1 rfl rfl (fun h1 => ?_) (fun h1 => ?_)
          | refine run_guard0 rfl rfl (fun h1 => ?_) (fun h1 => ?_)
          | refine run_guard rfl rfl (fun h1 => ?_) (fun h1 => ?_)
          | refine run_nil ?_
          | refine aw_seq ?_
          | refine aw_region (by kernel_rfl) (Nat.le_of_ble_eq_true rfl) ?_
          | refine aw_block ?_
          | refine aw_cond_t rfl ?_
          | refine aw_cond_f rfl ?_
          | refine aw_cond_tp rfl (by omega) ?_
          | refine aw_cond_fp rfl (by omega) ?_
          | refine aw_cond1 rfl (fun h1 => ?_) (fun h1 => ?_)
          | refine aw_cond rfl (fun h1 => ?_) (fun h1 => ?_)
          | refine aw_skip ?_
          | refine aw_exit ?_
          | refine aw_ret ?_
          | refine pp_ret ?_
          | refine pp_normal ?_
        all_goals (
          obtain rfl : n' = n + 1 := by rw [← hb2] at hn'; simp at hn'; omega
          refine pm_normal _ (renumD [0, 1, 3] (h4 := .blk rfl (WkL.refl _) rfl (.hole (.blk rfl (.ofEq (by refine Eq.trans ?_ (renL_map (fun _ => rfl) _).symm; rw [← hb2, List.map_append]; rfl)) rfl .nil)))) rfl)
  · rw [if_pos he] at hst
    obtain ⟨rfl, rfl⟩ := Prod.mk.inj hst
    have HR := ac_roomE 1 e bs n he
    subst hn hn'
    refine acalls_of_aw Try.func37 rfl rfl ?_
    repeat' first
      | refine st ?_
      | refine stMW [0, 1] HR ?_
      | refine stm ?_
      | refine run_want rfl rfl ?_
      | refine run_unwant rfl rfl ?_
      | refine run_undef rfl rfl ?_
      | refine run_guard1t rfl rfl (by omega) ?_
      | refine run_guard1f rfl rfl (by omega) ?_
      | refine run_guard0t rfl rfl (by omega) ?_
      | refine run_guard0f rfl rfl (by omega) ?_
      | refine run_guard1 rfl rfl (fun h1 => ?_) (fun h1 => ?_)
      | refine run_guard0 rfl rfl (fun h1 => ?_) (fun h1 => ?_)
      | refine run_guard rfl rfl (fun h1 => ?_) (fun h1 => ?_)
      | refine run_nil ?_
      | refine aw_seq ?_
      | refine aw_region (by kernel_rfl) (Nat.le_of_ble_eq_true rfl) ?_
      | refine aw_block ?_
      | refine aw_cond_t rfl ?_
      | refine aw_cond_f rfl ?_
      | refine aw_cond_tp rfl (by omega) ?_
      | refine aw_cond_fp rfl (by omega) ?_
      | refine aw_cond1 rfl (fun h1 => ?_) (fun h1 => ?_)
      | refine aw_cond rfl (fun h1 => ?_) (fun h1 => ?_)
      | refine aw_skip ?_
      | refine aw_exit ?_
      | refine aw_ret ?_
      | refine pp_ret ?_
      | refine pp_normal ?_
    all_goals first | exact pm_ret _ (renumD [0, 1, 1]) rfl | (exfalso; omega)
structure Ug where
  i : Nat
  bs : List Int
  n : Nat
end Go.Proofs.Ytjamfmnlhiolkaa
