/- Bits: the bytes of the reference. -/
import Derived.Test.YtjamfmnlhiolkaaC8
set_option linter.unusedVariables false
set_option linter.unusedSimpArgs false
namespace Go.Proofs.Ytjamfmnlhiolkaa
open Go Av
set_option maxRecDepth 20000
theorem pkN_zeros_get (Z : List Int) (q k : Nat) : (Z ++ List.replicate q 0).getD k 0 = if k < Z.length then Z.getD k 0 else 0 := by
  rw [List.getD_eq_getElem?_getD]
  split
  · rw [List.getElem?_append_left (by omega), List.getD_eq_getElem?_getD]
  · rw [List.getElem?_append_right (by omega)]
    rcases Nat.lt_or_ge (k - Z.length) q with h | h
    · rw [List.getElem?_replicate, if_pos h]; rfl
    · rw [List.getElem?_eq_none (by simp; omega)]; rfl
/-- One bit more, in bytes that are there already. -/
theorem pk_in (bs : List Int) (N k : Nat) (hk : k < bs.length) (hN : (bs.length + 7) / 8 = N) :
    (pkN bs k ++ List.replicate (N - (k + 7) / 8) 0).set (k / 8) (bitv .or .u8 ((pkN bs k ++ List.replicate (N - (k + 7) / 8) 0).getD (k / 8) 0) (IntKind.u8.wrap (bs.getD k 0 * 2 ^ (7 - k % 8)))) = pkN bs (k + 1) ++ List.replicate (N - (k + 1 + 7) / 8) 0 := by
  have hl := pkN_len bs k
  rw [pkN, pkS]
  by_cases h8 : k % 8 = 0
  · rw [if_pos h8]
    have e : List.replicate (N - (k + 7) / 8) (0 : Int) = [0] ++ List.replicate (N - (k + 1 + 7) / 8) 0 := by
      rw [show N - (k + 7) / 8 = (N - (k + 1 + 7) / 8) + 1 by omega, List.replicate_succ]
      rfl
    rw [e, ← List.append_assoc]
    have hlt : k / 8 < (pkN bs k ++ [0]).length := by rw [List.length_append, hl]; simp; omega
    rw [List.set_append_left _ _ hlt]
    congr 3
    rw [List.getD_eq_getElem?_getD, List.getD_eq_getElem?_getD, List.getElem?_append_left hlt]
  · rw [if_neg h8]
    have hlt : k / 8 < (pkN bs k).length := by rw [hl]; omega
    rw [List.set_append_left _ _ hlt, show (k + 1 + 7) / 8 = (k + 7) / 8 by omega]
    congr 3
    rw [List.getD_eq_getElem?_getD, List.getD_eq_getElem?_getD, List.getElem?_append_left hlt]
theorem ac_rbytesE (n : Nat) (e : Int) (bs : List Int) (he : e ≠ 0) : ACalls Try.prog 39 [.pointer (some ⟨0, 0, none⟩)] [some ⟨[.slice (some ⟨1, 0, none⟩) n n, .int .i64 e], false, 1⟩, some ⟨List.map (Value.int .u8) bs, false, 1⟩] (.tuple #[.string ⟨#[]⟩, .int .i64 e]) [none, none] := by
  refine acalls_law Try.func39 rfl rfl rfl ?_
  repeat' first
    | refine st ?_
    | refine stm ?_
    | refine run_want rfl rfl ?_
    | refine run_unwant rfl rfl ?_
    | refine run_undef rfl rfl ?_
    | refine run_guard1t rfl rfl (by omega) ?_
    | refine run_guard1f rfl rfl (by omega) ?_
    | refine run_guard0t rfl rfl (by omega) ?_
    | refine run_guard0f rfl rfl (by omega) ?_
    | refine run_guard1 rfl rfl (fun h1 => ?_) (fun h1 => ?_)
    | refine run_guard0 rfl rfl (fun h1 => ?_) (fun h1 => ?_)
    | refine run_guard rfl rfl (fun h1 => ?_) (fun h1 => ?_)
    | refine run_nil ?_
    | refine sd ?_
    | refine sdl ?_
    | refine sdm ?_
    | refine sdb ?_
    | refine rund_want rfl rfl ?_
    | refine rund_unwant rfl rfl ?_
    | refine rund_undef rfl rfl ?_
    | refine rund_guard1 rfl rfl (fun h1 => ?_) (fun h1 => ?_)
    | refine rund_guard0 rfl rfl (fun h1 => ?_) (fun h1 => ?_)
    | refine rund_guard rfl rfl (fun h1 => ?_) (fun h1 => ?_)
    | refine rund_nil ?_
    | refine aw_seq ?_
    | refine aw_region (by kernel_rfl) (Nat.le_of_ble_eq_true rfl) ?_
    | refine aw_region_d (id := 2) [0, 1, 3, 7, 0, 31] 6 (by kernel_rfl) (by kernel_rfl) (by kernel_rfl) (Nat.le_of_ble_eq_true rfl) ?_
    | refine aw_region_d (id := 7) [0, 0, 2, 0, 0, 16, 56, 120, 0, 256, 768, 1792, 0, 7936, 16128, 0, 32768, 98304, 261888, 524280, 1048575, 2097151] 21 (by kernel_rfl) (by kernel_rfl) (by kernel_rfl) (Nat.le_of_ble_eq_true rfl) ?_
    | refine aw_block ?_
    | refine aw_cond_t rfl ?_
    | refine aw_cond_f rfl ?_
    | refine aw_cond_tp rfl (by omega) ?_
    | refine aw_cond_fp rfl (by omega) ?_
    | refine aw_cond1 rfl (fun h1 => ?_) (fun h1 => ?_)
    | refine aw_cond rfl (fun h1 => ?_) (fun h1 => ?_)
    | refine aw_skip ?_
    | refine aw_exit ?_
    | refine aw_ret ?_
    | refine pp_ret ?_
    | refine pp_normal ?_
  all_goals first | rfl | (exfalso; omega)
structure Bg where
  i : Nat
set_option maxHeartbeats 2000000 in
theorem ac_rbytes (n : Nat) (bs Z : List Int) (hn : n = bs.length) (hZ : pack bs = Z) (hl : bs.length ≤ 524288) (hbit : ∀ b ∈ bs, 0 ≤ b ∧ b ≤ 255) : ACalls Try.prog 39 [.pointer (some ⟨0, 0, none⟩)] [some ⟨[.slice (some ⟨1, 0, none⟩) n n, .int .i64 0], false, 1⟩, some ⟨List.map (Value.int .u8) bs, false, 1⟩] (.tuple #[.string ⟨(Z.map b8).toArray⟩, .int .i64 0]) [none, none] := by
  have hb := bytes_u8 Z (hZ ▸ pkN_rng bs bs.length)
  have hZl : Z.length = (bs.length + 7) / 8 := by rw [← hZ, pack_len]
  obtain ⟨N, hN⟩ : ∃ N, (((n : Int) + 7) / 8).toNat = N := ⟨_, rfl⟩
  have hN' : (bs.length + 7) / 8 = N := by omega
  refine acalls_law Try.func39 rfl rfl rfl ?_
  repeat' first
    | refine st ?_
    | refine stm ?_
    | refine run_want rfl rfl ?_
    | refine run_unwant rfl rfl ?_
    | refine run_undef rfl rfl ?_
    | refine run_guard1t rfl rfl (by omega) ?_
    | refine run_guard1f rfl rfl (by omega) ?_
    | refine run_guard0t rfl rfl (by omega) ?_
    | refine run_guard0f rfl rfl (by omega) ?_
    | refine run_guard1 rfl rfl (fun h1 => ?_) (fun h1 => ?_)
    | refine run_guard0 rfl rfl (fun h1 => ?_) (fun h1 => ?_)
    | refine run_guard rfl rfl (fun h1 => ?_) (fun h1 => ?_)
    | refine run_nil ?_
    | refine sd ?_
    | refine sdl ?_
    | refine sdm ?_
    | refine sdb ?_
    | refine rund_want rfl rfl ?_
    | refine rund_unwant rfl rfl ?_
    | refine rund_undef rfl rfl ?_
    | refine rund_guard1 rfl rfl (fun h1 => ?_) (fun h1 => ?_)
    | refine rund_guard0 rfl rfl (fun h1 => ?_) (fun h1 => ?_)
    | refine rund_guard rfl rfl (fun h1 => ?_) (fun h1 => ?_)
    | refine rund_nil ?_
    | refine aw_seq ?_
    | refine aw_region (by kernel_rfl) (Nat.le_of_ble_eq_true rfl) ?_
    | refine aw_region_d (id := 2) [0, 1, 3, 7, 0, 31] 6 (by kernel_rfl) (by kernel_rfl) (by kernel_rfl) (Nat.le_of_ble_eq_true rfl) ?_
    | refine aw_region_d (id := 7) [0, 0, 2, 0, 0, 16, 56, 120, 0, 256, 768, 1792, 0, 7936, 16128, 0, 32768, 98304, 261888, 524280, 1048575, 2097151] 21 (by kernel_rfl) (by kernel_rfl) (by kernel_rfl) (Nat.le_of_ble_eq_true rfl) ?_
    | refine aw_block ?_
    | refine aw_cond_t rfl ?_
    | refine aw_cond_f rfl ?_
    | refine aw_cond_tp rfl (by omega) ?_
    | refine aw_cond_fp rfl (by omega) ?_
    | refine aw_cond1 rfl (fun h1 => ?_) (fun h1 => ?_)
    | refine aw_cond rfl (fun h1 => ?_) (fun h1 => ?_)
    | refine aw_skip ?_
    | refine aw_exit ?_
    | refine aw_ret ?_
    | refine pp_ret ?_
    | refine pp_normal ?_
  rw [hN]
  refine aw_loopg
    (S := fun y : Bg => [(0, .pointer (some ⟨0, 0, none⟩)), (4, .slice (some ⟨2, 0, none⟩) N N), (5, .int .i64 y.i)])
    (B := fun y : Bg => [some ⟨[.slice (some ⟨1, 0, none⟩) n n, .int .i64 0], false, 1⟩, some ⟨List.map (Value.int .u8) bs, false, 1⟩, some ⟨List.map (Value.int .u8) (pkN bs y.i ++ List.replicate (N - (y.i + 7) / 8) 0), true, 1⟩])
    (R := fun y : Bg => y.i ≤ bs.length)
    (μ := fun y : Bg => bs.length - y.i) ⟨0⟩ (fitsD [0, 1, 2] (h4 := .blk rfl (WkL.refl _) rfl (.blk rfl (.ofEq (renL_map (fun _ => rfl) _).symm) rfl (.blk rfl (.ofEq (by refine Eq.trans ?_ (renL_map (fun _ => rfl) _).symm; simp [pkN, List.map_replicate])) rfl .nil)))) (Nat.zero_le _) ?_
  rintro ⟨i⟩ g1
  dsimp only at *
  have hpl := pkN_len bs i
  by_cases hi : i < bs.length
  · have e1 : min (7 - (i : Int) % 8).toNat IntKind.u8.bits = 7 - i % 8 := by show min (7 - (i : Int) % 8).toNat 8 = _; omega
    have e2 : ((i : Int) / 8).toNat = i / 8 := by omega
    have hcl : (pkN bs i ++ List.replicate (N - (i + 7) / 8) 0).length = N := by simp [hpl]; omega
    repeat' first
      | refine st ?_
      | refine stm ?_
      | refine run_want rfl rfl ?_
      | refine run_unwant rfl rfl ?_
      | refine run_undef rfl rfl ?_
      | refine run_guard1t rfl rfl (by omega) ?_
      | refine run_guard1f rfl rfl (by omega) ?_
      | refine run_guard0t rfl rfl (by omega) ?_
      | refine run_guard0f rfl rfl (by omega) ?_
      | refine run_guard1 rfl rfl (fun h1 => ?_) (fun h1 => ?_)
      | refine run_guard0 rfl rfl (fun h1 => ?_) (fun h1 => ?_)
      | refine run_guard rfl rfl (fun h1 => ?_) (fun h1 => ?_)
      | refine run_nil ?_
      | refine sd ?_
      | refine sdl ?_
      | refine sdm ?_
      | refine sdb ?_
      | refine rund_want rfl rfl ?_
      | refine rund_unwant rfl rfl ?_
      | refine rund_undef rfl rfl ?_
      | refine rund_guard1 rfl rfl (fun h1 => ?_) (fun h1 => ?_)
      | refine rund_guard0 rfl rfl (fun h1 => ?_) (fun h1 => ?_)
      | refine rund_guard rfl rfl (fun h1 => ?_) (fun h1 => ?_)
      | refine rund_nil ?_
      | refine aw_seq ?_
      | refine aw_region (by kernel_rfl) (Nat.le_of_ble_eq_true rfl) ?_
      | refine aw_region_d (id := 2) [0, 1, 3, 7, 0, 31] 6 (by kernel_rfl) (by kernel_rfl) (by kernel_rfl) (Nat.le_of_ble_eq_true rfl) ?_
      | refine aw_region_d (id := 7) [0, 0, 2, 0, 0, 16, 56, 120, 0, 256, 768, 1792, 0, 7936, 16128, 0, 32768, 98304, 261888, 524280, 1048575, 2097151] 21 (by kernel_rfl) (by kernel_rfl) (by kernel_rfl) (Nat.le_of_ble_eq_true rfl) ?_
      | refine aw_block ?_
      | refine aw_cond_t rfl ?_
      | refine aw_cond_f rfl ?_
      | refine aw_cond_tp rfl (by omega) ?_
      | refine aw_cond_fp rfl (by omega) ?_
      | refine aw_cond1 rfl (fun h1 => ?_) (fun h1 => ?_)
      | refine aw_cond rfl (fun h1 => ?_) (fun h1 => ?_)
      | refine aw_skip ?_
      | refine aw_exit ?_
      | refine aw_ret ?_
      | refine pp_ret ?_
      | refine pp_normal ?_
    refine Exists.intro ⟨i + 1⟩ ⟨fitsD [0, 1, 2] (h4 := .blk rfl (WkL.refl _) rfl (.blk rfl (.ofEq (renL_map (fun _ => rfl) _).symm) rfl (.blk rfl (.ofEq (by
      refine Eq.trans ?_ (renL_map (fun _ => rfl) _).symm
      rw [← pk_in bs N i hi hN', ← e1, ← e2]
      rfl)) rfl .nil))), hi, by dsimp only; omega⟩
  · obtain rfl : i = bs.length := by omega
    have hq : pkN bs bs.length ++ List.replicate (N - (bs.length + 7) / 8) 0 = Z := by rw [hN', Nat.sub_self, ← hZ]; simp [pack]
    rw [hq]
    repeat' first
      | refine st (h := ok_bytes_str (l := Z.map b8) rfl rfl (by simp; omega) ((take_full (by simp; omega)).trans hb)) ?_
      | refine st ?_
      | refine stm ?_
      | refine run_want rfl rfl ?_
      | refine run_unwant rfl rfl ?_
      | refine run_undef rfl rfl ?_
      | refine run_guard1t rfl rfl (by omega) ?_
      | refine run_guard1f rfl rfl (by omega) ?_
      | refine run_guard0t rfl rfl (by omega) ?_
      | refine run_guard0f rfl rfl (by omega) ?_
      | refine run_guard1 rfl rfl (fun h1 => ?_) (fun h1 => ?_)
      | refine run_guard0 rfl rfl (fun h1 => ?_) (fun h1 => ?_)
      | refine run_guard rfl rfl (fun h1 => ?_) (fun h1 => ?_)
      | refine run_nil ?_
      | refine sd ?_
      | refine sdl ?_
      | refine sdm ?_
      | refine sdb ?_
      | refine rund_want rfl rfl ?_
      | refine rund_unwant rfl rfl ?_
      | refine rund_undef rfl rfl ?_
      | refine rund_guard1 rfl rfl (fun h1 => ?_) (fun h1 => ?_)
      | refine rund_guard0 rfl rfl (fun h1 => ?_) (fun h1 => ?_)
      | refine rund_guard rfl rfl (fun h1 => ?_) (fun h1 => ?_)
      | refine rund_nil ?_
      | refine aw_seq ?_
      | refine aw_region (by kernel_rfl) (Nat.le_of_ble_eq_true rfl) ?_
      | refine aw_region_d (id := 2) [0, 1, 3, 7, 0, 31] 6 (by kernel_rfl) (by kernel_rfl) (by kernel_rfl) (Nat.le_of_ble_eq_true rfl) ?_
      | refine aw_region_d (id := 7) [0, 0, 2, 0, 0, 16, 56, 120, 0, 256, 768, 1792, 0, 7936, 16128, 0, 32768, 98304, 261888, 524280, 1048575, 2097151] 21 (by kernel_rfl) (by kernel_rfl) (by kernel_rfl) (Nat.le_of_ble_eq_true rfl) ?_
      | refine aw_block ?_
      | refine aw_cond_t rfl ?_
      | refine aw_cond_f rfl ?_
      | refine aw_cond_tp rfl (by omega) ?_
      | refine aw_cond_fp rfl (by omega) ?_
      | refine aw_cond1 rfl (fun h1 => ?_) (fun h1 => ?_)
      | refine aw_cond rfl (fun h1 => ?_) (fun h1 => ?_)
      | refine aw_skip ?_
      | refine aw_exit ?_
      | refine aw_ret ?_
      | refine pp_ret ?_
      | refine pp_normal ?_
    rfl
end Go.Proofs.Ytjamfmnlhiolkaa
