/- Bits: the reference writes fields. -/
import Derived.Test.YtjamfmnlhiolkaaC4
import Derived.Test.YtjamfmnlhiolkaaC6
set_option linter.unusedVariables false
set_option linter.unusedSimpArgs false
namespace Go.Proofs.Ytjamfmnlhiolkaa
open Go Av
set_option maxRecDepth 20000
theorem ac_roomE (w e : Int) (bs : List Int) (n : Nat) (he : e ≠ 0) : ACalls Try.prog 57 [.pointer (some ⟨0, 0, none⟩), .int .i64 w] [some ⟨[.slice (some ⟨1, 0, none⟩) n n, .int .i64 e], true, 1⟩, some ⟨List.map (Value.int .u8) bs, true, 1⟩] (.bool false) [some ⟨[.slice (some ⟨1, 0, none⟩) n n, .int .i64 e], true, 1⟩, some ⟨List.map (Value.int .u8) bs, true, 1⟩] := by
  refine acalls_of_aw Try.func57 rfl rfl ?_
  repeat' first
    | refine st ?_
    | refine stm ?_
    | refine run_want rfl rfl ?_
    | refine run_unwant rfl rfl ?_
    | refine run_undef rfl rfl ?_
    | refine run_guard1t rfl rfl (by omega) ?_
    | refine run_guard1f rfl rfl (by omega) ?_
    | refine run_guard0t rfl rfl (by omega) ?_
    | refine run_guard0f rfl rfl (by omega) ?_
    | refine run_guard1 rfl rfl (fun h1 => ?_) (fun h1 => ?_)
    | refine run_guard0 rfl rfl (fun h1 => ?_) (fun h1 => ?_)
    | refine run_guard rfl rfl (fun h1 => ?_) (fun h1 => ?_)
    | refine run_nil ?_
    | refine aw_seq ?_
    | refine aw_region (by kernel_rfl) (Nat.le_of_ble_eq_true rfl) ?_
    | refine aw_block ?_
    | refine aw_cond_t rfl ?_
    | refine aw_cond_f rfl ?_
    | refine aw_cond_tp rfl (by omega) ?_
    | refine aw_cond_fp rfl (by omega) ?_
    | refine aw_cond1 rfl (fun h1 => ?_) (fun h1 => ?_)
    | refine aw_cond rfl (fun h1 => ?_) (fun h1 => ?_)
    | refine aw_skip ?_
    | refine aw_exit ?_
    | refine aw_ret ?_
    | refine pp_ret ?_
    | refine pp_normal ?_
  all_goals first | (refine pm_ret _ (renumD [0, 1]) ?_; simp [retOf, ren, he]; done) | (exfalso; omega)
theorem ac_roomF (w : Int) (bs : List Int) (n : Nat) (hn : n = bs.length) (hw : 0 ≤ w ∧ w ≤ 9000000000) (h : bs.length + w > 524288) (hl : bs.length ≤ 524288) : ACalls Try.prog 57 [.pointer (some ⟨0, 0, none⟩), .int .i64 w] [some ⟨[.slice (some ⟨1, 0, none⟩) n n, .int .i64 0], true, 1⟩, some ⟨List.map (Value.int .u8) bs, true, 1⟩] (.bool false) [some ⟨[.slice (some ⟨1, 0, none⟩) n n, .int .i64 8], true, 1⟩, some ⟨List.map (Value.int .u8) bs, true, 1⟩] := by
  refine acalls_of_aw Try.func57 rfl rfl ?_
  repeat' first
    | refine st ?_
    | refine stm ?_
    | refine run_want rfl rfl ?_
    | refine run_unwant rfl rfl ?_
    | refine run_undef rfl rfl ?_
    | refine run_guard1t rfl rfl (by omega) ?_
    | refine run_guard1f rfl rfl (by omega) ?_
    | refine run_guard0t rfl rfl (by omega) ?_
    | refine run_guard0f rfl rfl (by omega) ?_
    | refine run_guard1 rfl rfl (fun h1 => ?_) (fun h1 => ?_)
    | refine run_guard0 rfl rfl (fun h1 => ?_) (fun h1 => ?_)
    | refine run_guard rfl rfl (fun h1 => ?_) (fun h1 => ?_)
    | refine run_nil ?_
    | refine aw_seq ?_
    | refine aw_region (by kernel_rfl) (Nat.le_of_ble_eq_true rfl) ?_
    | refine aw_block ?_
    | refine aw_cond_t rfl ?_
    | refine aw_cond_f rfl ?_
    | refine aw_cond_tp rfl (by omega) ?_
    | refine aw_cond_fp rfl (by omega) ?_
    | refine aw_cond1 rfl (fun h1 => ?_) (fun h1 => ?_)
    | refine aw_cond rfl (fun h1 => ?_) (fun h1 => ?_)
    | refine aw_skip ?_
    | refine aw_exit ?_
    | refine aw_ret ?_
    | refine pp_ret ?_
    | refine pp_normal ?_
  all_goals first | (refine pm_ret _ (renumD [0, 1]) ?_; simp [retOf, ren]; done) | (exfalso; omega)
theorem ac_roomT (w : Int) (bs : List Int) (n : Nat) (hn : n = bs.length) (hw : 0 ≤ w ∧ w ≤ 9000000000) (h : ¬ bs.length + w > 524288) (hl : bs.length ≤ 524288) : ACalls Try.prog 57 [.pointer (some ⟨0, 0, none⟩), .int .i64 w] [some ⟨[.slice (some ⟨1, 0, none⟩) n n, .int .i64 0], true, 1⟩, some ⟨List.map (Value.int .u8) bs, true, 1⟩] (.bool true) [some ⟨[.slice (some ⟨1, 0, none⟩) n n, .int .i64 0], true, 1⟩, some ⟨List.map (Value.int .u8) bs, true, 1⟩] := by
  refine acalls_of_aw Try.func57 rfl rfl ?_
  repeat' first
    | refine st ?_
    | refine stm ?_
    | refine run_want rfl rfl ?_
    | refine run_unwant rfl rfl ?_
    | refine run_undef rfl rfl ?_
    | refine run_guard1t rfl rfl (by omega) ?_
    | refine run_guard1f rfl rfl (by omega) ?_
    | refine run_guard0t rfl rfl (by omega) ?_
    | refine run_guard0f rfl rfl (by omega) ?_
    | refine run_guard1 rfl rfl (fun h1 => ?_) (fun h1 => ?_)
    | refine run_guard0 rfl rfl (fun h1 => ?_) (fun h1 => ?_)
    | refine run_guard rfl rfl (fun h1 => ?_) (fun h1 => ?_)
    | refine run_nil ?_
    | refine aw_seq ?_
    | refine aw_region (by kernel_rfl) (Nat.le_of_ble_eq_true rfl) ?_
    | refine aw_block ?_
    | refine aw_cond_t rfl ?_
    | refine aw_cond_f rfl ?_
    | refine aw_cond_tp rfl (by omega) ?_
    | refine aw_cond_fp rfl (by omega) ?_
    | refine aw_cond1 rfl (fun h1 => ?_) (fun h1 => ?_)
    | refine aw_cond rfl (fun h1 => ?_) (fun h1 => ?_)
    | refine aw_skip ?_
    | refine aw_exit ?_
    | refine aw_ret ?_
    | refine pp_ret ?_
    | refine pp_normal ?_
  all_goals first | (refine pm_ret _ (renumD [0, 1]) ?_; simp [retOf, ren]; done) | (exfalso; omega)
set_option maxHeartbeats 1000000 in
theorem ac_runsigned (w x : Int) (e e' : Int) (bs bs' : List Int) (n n' : Nat) (hn : n = bs.length) (hst : unsW bs e w x = (bs', e')) (hn' : n' = bs'.length) (hl : bs.length ≤ 524288) (hw : -9223372036854775808 ≤ w ∧ w ≤ 9223372036854775807) (hx : -9223372036854775808 ≤ x ∧ x ≤ 9223372036854775807) :
    ACalls Try.prog 36 [.pointer (some ⟨0, 0, none⟩), .int .i64 w, .int .i64 x] [some ⟨[.slice (some ⟨1, 0, none⟩) n n, .int .i64 e], true, 1⟩, some ⟨List.map (Value.int .u8) bs, true, 1⟩] (.tuple #[]) [some ⟨[.slice (some ⟨2, 0, none⟩) n' n', .int .i64 e'], true, 1⟩, none, some ⟨List.map (Value.int .u8) bs', true, 1⟩] := by
  unfold unsW fieldW at hst
  by_cases he : e = 0
  · subst he
    rw [if_neg (by simp)] at hst
    by_cases hr : 1 ≤ w ∧ w ≤ 63
    · rw [if_neg (by simpa using hr)] at hst
      have hsh : w < 63 → IntKind.i64.wrap (1 * 2 ^ (min w.toNat IntKind.i64.bits)) = 2 ^ w.toNat := fun h => by
        have em : min w.toNat IntKind.i64.bits = w.toNat := by show min w.toNat 64 = _; omega
        obtain ⟨p1, p2⟩ := pow_bd (w + 1) ⟨by omega, by omega⟩
        rw [show (w + 1 - 1).toNat = w.toNat by omega] at p1 p2
        rw [em, Int.one_mul]
        exact wrap64 (by omega)
      have h63 : w = 63 → (2 : Int) ^ w.toNat = 9223372036854775808 := fun h => by rw [h]; rfl
      by_cases hf : 0 ≤ x ∧ x < 2 ^ w.toNat
      · rw [if_neg (by simpa using hf)] at hst
        have hf' : w < 63 → x < IntKind.i64.wrap (1 * 2 ^ (min w.toNat IntKind.i64.bits)) := fun h => by rw [hsh h]; exact hf.2
        by_cases hs : bs.length + w > 524288
        · rw [if_pos hs] at hst
          obtain ⟨rfl, rfl⟩ := Prod.mk.inj hst
          subst hn'
          have HR := ac_roomF w bs n hn (by omega) hs hl
          subst hn
          refine acalls_of_aw Try.func36 rfl rfl ?_
          repeat' first
            | refine st ?_
            | refine stMW [0, 1] HR ?_
            | refine stm ?_
            | refine run_want rfl rfl ?_
            | refine run_unwant rfl rfl ?_
            | refine run_undef rfl rfl ?_
            | refine run_guard1t rfl rfl (by omega) ?_
            | refine run_guard1f rfl rfl (by omega) ?_
            | refine run_guard0t rfl rfl (by omega) ?_
            | refine run_guard0f rfl rfl (by omega) ?_
            | refine run_guard1 rfl rfl (fun h1 => ?_) (fun h1 => ?_)
            | refine run_guard0 rfl rfl (fun h1 => ?_) (fun h1 => ?_)
            | refine run_guard rfl rfl (fun h1 => ?_) (fun h1 => ?_)
            | refine run_nil ?_
            | refine aw_seq ?_
            | refine aw_region (by kernel_rfl) (Nat.le_of_ble_eq_true rfl) ?_
            | refine aw_block ?_
            | refine aw_cond_t rfl ?_
            | refine aw_cond_f rfl ?_
            | refine aw_cond_tp rfl (by omega) ?_
            | refine aw_cond_fp rfl (by omega) ?_
            | refine aw_cond1 rfl (fun h1 => ?_) (fun h1 => ?_)
            | refine aw_cond rfl (fun h1 => ?_) (fun h1 => ?_)
            | refine aw_skip ?_
            | refine aw_exit ?_
            | refine aw_ret ?_
            | refine pp_ret ?_
            | refine pp_normal ?_
          all_goals first | exact pm_normal _ (renumD [0, 1, 1]) rfl | exact pm_ret _ (renumD [0, 1, 1]) rfl | (exfalso; omega)
        · rw [if_neg hs] at hst
          obtain ⟨hb, rfl⟩ := Prod.mk.inj hst
          have hl1 := congrArg List.length hb
          rw [List.length_append, bitsOf_len] at hl1
          have HR := ac_roomT w bs n hn (by omega) hs hl
          have HP := ac_rput w.toNat x 0 bs bs' n n' hx (by omega) hn hb hn' (by omega)
          rw [show ((w.toNat : Nat) : Int) = w by omega] at HP
          refine acalls_of_aw Try.func36 rfl rfl ?_
          repeat' first
            | refine st ?_
            | refine stMW [0, 1] HR ?_
            | refine stMW [0, 1] HP ?_
            | refine stm ?_
            | refine run_want rfl rfl ?_
            | refine run_unwant rfl rfl ?_
            | refine run_undef rfl rfl ?_
            | refine run_guard1t rfl rfl (by omega) ?_
            | refine run_guard1f rfl rfl (by omega) ?_
            | refine run_guard0t rfl rfl (by omega) ?_
            | refine run_guard0f rfl rfl (by omega) ?_
            | refine run_guard1 rfl rfl (fun h1 => ?_) (fun h1 => ?_)
            | refine run_guard0 rfl rfl (fun h1 => ?_) (fun h1 => ?_)
            | refine run_guard rfl rfl (fun h1 => ?_) (fun h1 => ?_)
            | refine run_nil ?_
            | refine aw_seq ?_
            | refine aw_region (by kernel_rfl) (Nat.le_of_ble_eq_true rfl) ?_
            | refine aw_block ?_
            | refine aw_cond_t rfl ?_
            | refine aw_cond_f rfl ?_
            | refine aw_cond_tp rfl (by omega) ?_
            | refine aw_cond_fp rfl (by omega) ?_
            | refine aw_cond1 rfl (fun h1 => ?_) (fun h1 => ?_)
            | refine aw_cond rfl (fun h1 => ?_) (fun h1 => ?_)
            | refine aw_skip ?_
            | refine aw_exit ?_
            | refine aw_ret ?_
            | refine pp_ret ?_
            | refine pp_normal ?_
          all_goals first | exact pm_normal _ (renumD [0, 1, 2]) rfl | (exfalso; omega)
      · rw [if_pos (by simpa using hf)] at hst
        obtain ⟨rfl, rfl⟩ := Prod.mk.inj hst
        subst hn hn'
        have hf' : w < 63 → ¬ (0 ≤ x ∧ x < IntKind.i64.wrap (1 * 2 ^ (min w.toNat IntKind.i64.bits))) := fun h => by rw [hsh h]; exact hf
        have hf2 : w = 63 → x < 0 := fun h => by have := h63 h; omega
        refine acalls_of_aw Try.func36 rfl rfl ?_
        repeat' first
          | refine st ?_
          | refine stm ?_
          | refine run_want rfl rfl ?_
          | refine run_unwant rfl rfl ?_
          | refine run_undef rfl rfl ?_
          | refine run_guard1t rfl rfl (by omega) ?_
          | refine run_guard1f rfl rfl (by omega) ?_
          | refine run_guard0t rfl rfl (by omega) ?_
          | refine run_guard0f rfl rfl (by omega) ?_
          | refine run_guard1 rfl rfl (fun h1 => ?_) (fun h1 => ?_)
          | refine run_guard0 rfl rfl (fun h1 => ?_) (fun h1 => ?_)
          | refine run_guard rfl rfl (fun h1 => ?_) (fun h1 => ?_)
          | refine run_nil ?_
          | refine aw_seq ?_
          | refine aw_region (by kernel_rfl) (Nat.le_of_ble_eq_true rfl) ?_
          | refine aw_block ?_
          | refine aw_cond_t rfl ?_
          | refine aw_cond_f rfl ?_
          | refine aw_cond_tp rfl (by omega) ?_
          | refine aw_cond_fp rfl (by omega) ?_
          | refine aw_cond1 rfl (fun h1 => ?_) (fun h1 => ?_)
          | refine aw_cond rfl (fun h1 => ?_) (fun h1 => ?_)
          | refine aw_skip ?_
          | refine aw_exit ?_
          | refine aw_ret ?_
          | refine pp_ret ?_
          | refine pp_normal ?_
        all_goals first | exact pm_ret _ (renumD [0, 1, 1]) rfl | (exfalso; omega)
    · rw [if_pos (by simpa using hr)] at hst
      obtain ⟨rfl, rfl⟩ := Prod.mk.inj hst
      subst hn hn'
      refine acalls_of_aw Try.func36 rfl rfl ?_
      repeat' first
        | refine st ?_
        | refine stm ?_
        | refine run_want rfl rfl ?_
        | refine run_unwant rfl rfl ?_
        | refine run_undef rfl rfl ?_
        | refine run_guard1t rfl rfl (by omega) ?_
        | refine run_guard1f rfl rfl (by omega) ?_
        | refine run_guard0t rfl rfl (by omega) ?_
        | refine run_guard0f rfl rfl (by omega) ?_
        | refine run_guard1 rfl rfl (fun h1 => ?_) (fun h1 => ?_)
        | refine run_guard0 rfl rfl (fun h1 => ?_) (fun h1 => ?_)
        | refine run_guard rfl rfl (fun h1 => ?_) (fun h1 => ?_)
        | refine run_nil ?_
        | refine aw_seq ?_
        | refine aw_region (by kernel_rfl) (Nat.le_of_ble_eq_true rfl) ?_
        | refine aw_block ?_
        | refine aw_cond_t rfl ?_
        | refine aw_cond_f rfl ?_
        | refine aw_cond_tp rfl (by omega) ?_
        | refine aw_cond_fp rfl (by omega) ?_
        | refine aw_cond1 rfl (fun h1 => ?_) (fun h1 => ?_)
        | refine aw_cond rfl (fun h1 => ?_) (fun h1 => ?_)
        | refine aw_skip ?_
        | refine aw_exit ?_
        | refine aw_ret ?_
        | refine pp_ret ?_
        | refine pp_normal ?_
      all_goals first | exact pm_ret _ (renumD [0, 1, 1]) rfl | (exfalso; omega)
  · rw [if_pos he] at hst
    obtain ⟨rfl, rfl⟩ := Prod.mk.inj hst
    subst hn hn'
    refine acalls_of_aw Try.func36 rfl rfl ?_
    repeat' first
      | refine st ?_
      | refine stm ?_
      | refine run_want rfl rfl ?_
      | refine run_unwant rfl rfl ?_
      | refine run_undef rfl rfl ?_
      | refine run_guard1t rfl rfl (by omega) ?_
      | refine run_guard1f rfl rfl (by omega) ?_
      | refine run_guard0t rfl rfl (by omega) ?_
      | refine run_guard0f rfl rfl (by omega) ?_
      | refine run_guard1 rfl rfl (fun h1 => ?_) (fun h1 => ?_)
      | refine run_guard0 rfl rfl (fun h1 => ?_) (fun h1 => ?_)
      | refine run_guard rfl rfl (fun h1 => ?_) (fun h1 => ?_)
      | refine run_nil ?_
      | refine aw_seq ?_
      | refine aw_region (by kernel_rfl) (Nat.le_of_ble_eq_true rfl) ?_
      | refine aw_block ?_
      | refine aw_cond_t rfl ?_
      | refine aw_cond_f rfl ?_
      | refine aw_cond_tp rfl (by omega) ?_
      | refine aw_cond_fp rfl (by omega) ?_
      | refine aw_cond1 rfl (fun h1 => ?_) (fun h1 => ?_)
      | refine aw_cond rfl (fun h1 => ?_) (fun h1 => ?_)
      | refine aw_skip ?_
      | refine aw_exit ?_
      | refine aw_ret ?_
      | refine pp_ret ?_
      | refine pp_normal ?_
    all_goals first | exact pm_ret _ (renumD [0, 1, 1]) rfl | (exfalso; omega)
theorem ac_rnewW : ACalls Try.prog 35 [] [] (.pointer (some ⟨0, 0, none⟩)) [some ⟨[.slice (some ⟨1, 0, none⟩) 0 0, .int .i64 0], true, 1⟩, some ⟨List.map (Value.int .u8) [], true, 1⟩] := by
  refine acalls_of_aw Try.func35 rfl rfl ?_
  refine aw_ghost 1 rfl ?_
  repeat' first
    | refine st ?_
    | refine stm ?_
    | refine run_want rfl rfl ?_
    | refine run_unwant rfl rfl ?_
    | refine run_undef rfl rfl ?_
    | refine run_guard1t rfl rfl (by omega) ?_
    | refine run_guard1f rfl rfl (by omega) ?_
    | refine run_guard0t rfl rfl (by omega) ?_
    | refine run_guard0f rfl rfl (by omega) ?_
    | refine run_guard1 rfl rfl (fun h1 => ?_) (fun h1 => ?_)
    | refine run_guard0 rfl rfl (fun h1 => ?_) (fun h1 => ?_)
    | refine run_guard rfl rfl (fun h1 => ?_) (fun h1 => ?_)
    | refine run_nil ?_
    | refine aw_seq ?_
    | refine aw_region (by kernel_rfl) (Nat.le_of_ble_eq_true rfl) ?_
    | refine aw_block ?_
    | refine aw_cond_t rfl ?_
    | refine aw_cond_f rfl ?_
    | refine aw_cond_tp rfl (by omega) ?_
    | refine aw_cond_fp rfl (by omega) ?_
    | refine aw_cond1 rfl (fun h1 => ?_) (fun h1 => ?_)
    | refine aw_cond rfl (fun h1 => ?_) (fun h1 => ?_)
    | refine aw_skip ?_
    | refine aw_exit ?_
    | refine aw_ret ?_
    | refine pp_ret ?_
    | refine pp_normal ?_
  exact pm_ret _ (renumD [1, 0]) rfl
end Go.Proofs.Ytjamfmnlhiolkaa
