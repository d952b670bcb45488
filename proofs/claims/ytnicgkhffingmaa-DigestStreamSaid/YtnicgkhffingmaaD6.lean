/- Digest: the state's digest. -/
import Derived.Test.YtnicgkhffingmaaD3
import Derived.Test.YtnicgkhffingmaaD4
import Derived.Test.YtnicgkhffingmaaVE
set_option linter.unusedVariables false
set_option linter.unusedSimpArgs false
namespace Go.Proofs.Ytnicgkhffingmaa
open Go Av
set_option maxRecDepth 20000
def b8 (x : Int) : UInt8 := UInt8.ofNat (IntKind.u8.wrap x).toNat
theorem u8v_b8 (x : Int) : u8v (b8 x) = .int .u8 (IntKind.u8.wrap x) := by
  have h := wrap8 x
  simp only [u8v, b8]
  congr 1
  have : (UInt8.ofNat (IntKind.u8.wrap x).toNat).toNat = (IntKind.u8.wrap x).toNat := by
    rw [UInt8.toNat_ofNat']
    omega
  rw [this]
  omega
def outB (C : List Int) : Nat → List UInt8
  | 0 => []
  | i + 1 => outB C i ++ [b8 (C.getD i 0), b8 (C.getD i 0 / 2 ^ (min (Int.toNat 8) IntKind.u32.bits)), b8 (C.getD i 0 / 2 ^ (min (Int.toNat 16) IntKind.u32.bits)), b8 (C.getD i 0 / 2 ^ (min (Int.toNat 24) IntKind.u32.bits))]
theorem list16_eq {W : List Int} (h : W.length = 16) : [(W.getD 0 0), (W.getD 1 0), (W.getD 2 0), (W.getD 3 0), (W.getD 4 0), (W.getD 5 0), (W.getD 6 0), (W.getD 7 0), (W.getD 8 0), (W.getD 9 0), (W.getD 10 0), (W.getD 11 0), (W.getD 12 0), (W.getD 13 0), (W.getD 14 0), (W.getD 15 0)] = W := by
  obtain ⟨a0, a1, a2, a3, a4, a5, a6, a7, b0, b1, b2, b3, b4, b5, b6, b7, rfl⟩ := list16 h
  rfl
set_option maxHeartbeats 4000000 in
theorem ac_sum1 (p0 p1 p2 p3 p4 p5 p6 p7 t : Int) (L : List UInt8) (n o : Nat) (ht : 0 ≤ t) (hn : n ≤ 64) (hL : o + n ≤ L.length) (hT : t + n ≤ 9223372036854775807) (C : List Int) (hC : cmp [p0, p1, p2, p3, p4, p5, p6, p7] (wd (fun j => (L.getD (o + j) 0).toNat) n) (t + n) true = C) :
    ACalls Try.prog 15 [.agg #[.int .u32 p0, .int .u32 p1, .int .u32 p2, .int .u32 p3, .int .u32 p4, .int .u32 p5, .int .u32 p6, .int .u32 p7, .slice (some ⟨0, o, none⟩) n n, .int .u64 t]] [some ⟨L.map u8v, false, 1⟩] (.string ⟨(outB C 8).toArray⟩) [none] := by
  obtain ⟨W, hW⟩ : ∃ W, wd (fun j => (L.getD (o + j) 0).toNat) n = W := ⟨_, rfl⟩
  have HW := ac_words L n o n hL hn W hW
  have hWl : W.length = 16 := by rw [← hW, wd_len]
  rw [hW, ← list16_eq hWl] at hC
  have hw : IntKind.u64.wrap (t + n) = t + n := wrap_id (by simp [IntKind.min, IntKind.signed]; omega) (by simp [IntKind.max, IntKind.signed, IntKind.bits]; omega)
  have HC := aw_compress p0 p1 p2 p3 p4 p5 p6 p7 (W.getD 0 0) (W.getD 1 0) (W.getD 2 0) (W.getD 3 0) (W.getD 4 0) (W.getD 5 0) (W.getD 6 0) (W.getD 7 0) (W.getD 8 0) (W.getD 9 0) (W.getD 10 0) (W.getD 11 0) (W.getD 12 0) (W.getD 13 0) (W.getD 14 0) (W.getD 15 0) (IntKind.u64.wrap (t + n)) true C (by rw [hw]; exact hC)
  refine acalls_law Try.func15 rfl rfl rfl ?_
  repeat' first
    | refine st (h := ok_bytes_str (l := outB C 8) rfl rfl (Nat.le_of_ble_eq_true rfl) (by simp only [outB, List.nil_append, List.cons_append, List.append_nil, List.map_cons, List.map_nil, u8v_b8]; rfl)) ?_
    | refine st ?_
    | refine st_call (HC) ?_
    | refine sdR [0] HW ?_
    | refine aw_loop_in ?_
    | refine awl_round ?_
    | refine then_round ?_
    | refine stm ?_
    | refine run_want rfl rfl ?_
    | refine run_unwant rfl rfl ?_
    | refine run_undef rfl rfl ?_
    | refine run_guard1t rfl rfl (by omega) ?_
    | refine run_guard1f rfl rfl (by omega) ?_
    | refine run_guard0t rfl rfl (by omega) ?_
    | refine run_guard0f rfl rfl (by omega) ?_
    | refine run_guard1 rfl rfl (fun h1 => ?_) (fun h1 => ?_)
    | refine run_guard0 rfl rfl (fun h1 => ?_) (fun h1 => ?_)
    | refine run_guard rfl rfl (fun h1 => ?_) (fun h1 => ?_)
    | refine run_nil ?_
    | refine sd ?_
    | refine sdl ?_
    | refine sd_call (HC) ?_
    | refine sdm (n := 1) ?_
    | refine sdm ?_
    | refine sdb ?_
    | refine rund_want rfl rfl ?_
    | refine rund_unwant rfl rfl ?_
    | refine rund_undef rfl rfl ?_
    | refine rund_guard1 rfl rfl (fun h1 => ?_) (fun h1 => ?_)
    | refine rund_guard0 rfl rfl (fun h1 => ?_) (fun h1 => ?_)
    | refine rund_guard rfl rfl (fun h1 => ?_) (fun h1 => ?_)
    | refine rund_nil ?_
    | refine aw_seq ?_
    | refine aw_region (by kernel_rfl) (Nat.le_of_ble_eq_true rfl) ?_
    | refine aw_region_d (id := 2) [0, 1, 0, 4, 12, 0, 32, 0, 128, 384, 896, 2016, 4095, 0] 14 (by kernel_rfl) (by kernel_rfl) (by kernel_rfl) (Nat.le_of_ble_eq_true rfl) ?_
    | refine aw_block ?_
    | refine aw_cond_t rfl ?_
    | refine aw_cond_f rfl ?_
    | refine aw_cond_tp rfl (by omega) ?_
    | refine aw_cond_fp rfl (by omega) ?_
    | refine aw_cond1 rfl (fun h1 => ?_) (fun h1 => ?_)
    | refine aw_cond rfl (fun h1 => ?_) (fun h1 => ?_)
    | refine aw_skip ?_
    | refine aw_exit ?_
    | refine aw_ret ?_
    | refine pp_ret ?_
    | refine pp_normal ?_
  all_goals rfl
theorem ac_words_nil : ACalls Try.prog 20 [.slice none 0 0] [] (.agg #[.int .u32 0, .int .u32 0, .int .u32 0, .int .u32 0, .int .u32 0, .int .u32 0, .int .u32 0, .int .u32 0, .int .u32 0, .int .u32 0, .int .u32 0, .int .u32 0, .int .u32 0, .int .u32 0, .int .u32 0, .int .u32 0]) [] := by
  refine acalls_pure Try.func20 rfl rfl rfl ?_
  repeat' first
    | refine st ?_
    | refine stm ?_
    | refine run_want rfl rfl ?_
    | refine run_unwant rfl rfl ?_
    | refine run_undef rfl rfl ?_
    | refine run_guard1t rfl rfl (by omega) ?_
    | refine run_guard1f rfl rfl (by omega) ?_
    | refine run_guard0t rfl rfl (by omega) ?_
    | refine run_guard0f rfl rfl (by omega) ?_
    | refine run_guard1 rfl rfl (fun h1 => ?_) (fun h1 => ?_)
    | refine run_guard0 rfl rfl (fun h1 => ?_) (fun h1 => ?_)
    | refine run_guard rfl rfl (fun h1 => ?_) (fun h1 => ?_)
    | refine run_nil ?_
    | refine sd ?_
    | refine sdl ?_
    | refine sdm (n := 1) ?_
    | refine sdm ?_
    | refine sdb ?_
    | refine rund_want rfl rfl ?_
    | refine rund_unwant rfl rfl ?_
    | refine rund_undef rfl rfl ?_
    | refine rund_guard1 rfl rfl (fun h1 => ?_) (fun h1 => ?_)
    | refine rund_guard0 rfl rfl (fun h1 => ?_) (fun h1 => ?_)
    | refine rund_guard rfl rfl (fun h1 => ?_) (fun h1 => ?_)
    | refine rund_nil ?_
    | refine aw_seq ?_
    | refine aw_region (by kernel_rfl) (Nat.le_of_ble_eq_true rfl) ?_
    | refine aw_region_d (id := 5) [0, 1, 3, 7, 0, 16, 0, 64, 192, 496, 1023, 2047, 4095] 12 (by kernel_rfl) (by kernel_rfl) (by kernel_rfl) (Nat.le_of_ble_eq_true rfl) ?_
    | refine aw_block ?_
    | refine aw_cond_t rfl ?_
    | refine aw_cond_f rfl ?_
    | refine aw_cond_tp rfl (by omega) ?_
    | refine aw_cond_fp rfl (by omega) ?_
    | refine aw_cond1 rfl (fun h1 => ?_) (fun h1 => ?_)
    | refine aw_cond rfl (fun h1 => ?_) (fun h1 => ?_)
    | refine aw_skip ?_
    | refine aw_exit ?_
    | refine aw_ret ?_
    | refine pp_ret ?_
    | refine pp_normal ?_
  refine aw_loop_in ?_
  repeat' first
    | refine st ?_
    | refine awl_round ?_
    | refine then_round ?_
    | refine stm ?_
    | refine run_want rfl rfl ?_
    | refine run_unwant rfl rfl ?_
    | refine run_undef rfl rfl ?_
    | refine run_guard1t rfl rfl (by omega) ?_
    | refine run_guard1f rfl rfl (by omega) ?_
    | refine run_guard0t rfl rfl (by omega) ?_
    | refine run_guard0f rfl rfl (by omega) ?_
    | refine run_guard1 rfl rfl (fun h1 => ?_) (fun h1 => ?_)
    | refine run_guard0 rfl rfl (fun h1 => ?_) (fun h1 => ?_)
    | refine run_guard rfl rfl (fun h1 => ?_) (fun h1 => ?_)
    | refine run_nil ?_
    | refine sd ?_
    | refine sdl ?_
    | refine sdm (n := 1) ?_
    | refine sdm ?_
    | refine sdb ?_
    | refine rund_want rfl rfl ?_
    | refine rund_unwant rfl rfl ?_
    | refine rund_undef rfl rfl ?_
    | refine rund_guard1 rfl rfl (fun h1 => ?_) (fun h1 => ?_)
    | refine rund_guard0 rfl rfl (fun h1 => ?_) (fun h1 => ?_)
    | refine rund_guard rfl rfl (fun h1 => ?_) (fun h1 => ?_)
    | refine rund_nil ?_
    | refine aw_seq ?_
    | refine aw_region (by kernel_rfl) (Nat.le_of_ble_eq_true rfl) ?_
    | refine aw_region_d (id := 5) [0, 1, 3, 7, 0, 16, 0, 64, 192, 496, 1023, 2047, 4095] 12 (by kernel_rfl) (by kernel_rfl) (by kernel_rfl) (Nat.le_of_ble_eq_true rfl) ?_
    | refine aw_block ?_
    | refine aw_cond_t rfl ?_
    | refine aw_cond_f rfl ?_
    | refine aw_cond_tp rfl (by omega) ?_
    | refine aw_cond_fp rfl (by omega) ?_
    | refine aw_cond1 rfl (fun h1 => ?_) (fun h1 => ?_)
    | refine aw_cond rfl (fun h1 => ?_) (fun h1 => ?_)
    | refine aw_skip ?_
    | refine aw_exit ?_
    | refine aw_ret ?_
    | refine pp_ret ?_
    | refine pp_normal ?_
  all_goals rfl
set_option maxHeartbeats 4000000 in
theorem ac_sum0 (p0 p1 p2 p3 p4 p5 p6 p7 t : Int) (ht : 0 ≤ t) (hT : t ≤ 9223372036854775807) (C : List Int) (hC : cmp [p0, p1, p2, p3, p4, p5, p6, p7] (wd (fun _ => 0) 0) t true = C) :
    ACalls Try.prog 15 [.agg #[.int .u32 p0, .int .u32 p1, .int .u32 p2, .int .u32 p3, .int .u32 p4, .int .u32 p5, .int .u32 p6, .int .u32 p7, .slice none 0 0, .int .u64 t]] [] (.string ⟨(outB C 8).toArray⟩) [] := by
  have hw : IntKind.u64.wrap (t + 0) = t := by rw [Int.add_zero]; exact wrap_id (by simp [IntKind.min, IntKind.signed]; omega) (by simp [IntKind.max, IntKind.signed, IntKind.bits]; omega)
  have HC := aw_compress p0 p1 p2 p3 p4 p5 p6 p7 0 0 0 0 0 0 0 0 0 0 0 0 0 0 0 0 (IntKind.u64.wrap (t + 0)) true C (by rw [hw]; exact hC)
  refine acalls_pure Try.func15 rfl rfl rfl ?_
  repeat' first
    | refine st (h := ok_bytes_str (l := outB C 8) rfl rfl (Nat.le_of_ble_eq_true rfl) (by simp only [outB, List.nil_append, List.cons_append, List.append_nil, List.map_cons, List.map_nil, u8v_b8]; rfl)) ?_
    | refine st ?_
    | refine st_call (HC) ?_
    | refine st_call (ac_words_nil) ?_
    | refine aw_loop_in ?_
    | refine awl_round ?_
    | refine then_round ?_
    | refine stm ?_
    | refine run_want rfl rfl ?_
    | refine run_unwant rfl rfl ?_
    | refine run_undef rfl rfl ?_
    | refine run_guard1t rfl rfl (by omega) ?_
    | refine run_guard1f rfl rfl (by omega) ?_
    | refine run_guard0t rfl rfl (by omega) ?_
    | refine run_guard0f rfl rfl (by omega) ?_
    | refine run_guard1 rfl rfl (fun h1 => ?_) (fun h1 => ?_)
    | refine run_guard0 rfl rfl (fun h1 => ?_) (fun h1 => ?_)
    | refine run_guard rfl rfl (fun h1 => ?_) (fun h1 => ?_)
    | refine run_nil ?_
    | refine sd ?_
    | refine sdl ?_
    | refine sd_call (HC) ?_
    | refine sd_call (ac_words_nil) ?_
    | refine sdm (n := 1) ?_
    | refine sdm ?_
    | refine sdb ?_
    | refine rund_want rfl rfl ?_
    | refine rund_unwant rfl rfl ?_
    | refine rund_undef rfl rfl ?_
    | refine rund_guard1 rfl rfl (fun h1 => ?_) (fun h1 => ?_)
    | refine rund_guard0 rfl rfl (fun h1 => ?_) (fun h1 => ?_)
    | refine rund_guard rfl rfl (fun h1 => ?_) (fun h1 => ?_)
    | refine rund_nil ?_
    | refine aw_seq ?_
    | refine aw_region (by kernel_rfl) (Nat.le_of_ble_eq_true rfl) ?_
    | refine aw_region_d (id := 2) [0, 1, 0, 4, 12, 0, 32, 0, 128, 384, 896, 2016, 4095, 0] 14 (by kernel_rfl) (by kernel_rfl) (by kernel_rfl) (Nat.le_of_ble_eq_true rfl) ?_
    | refine aw_block ?_
    | refine aw_cond_t rfl ?_
    | refine aw_cond_f rfl ?_
    | refine aw_cond_tp rfl (by omega) ?_
    | refine aw_cond_fp rfl (by omega) ?_
    | refine aw_cond1 rfl (fun h1 => ?_) (fun h1 => ?_)
    | refine aw_cond rfl (fun h1 => ?_) (fun h1 => ?_)
    | refine aw_skip ?_
    | refine aw_exit ?_
    | refine aw_ret ?_
    | refine pp_ret ?_
    | refine pp_normal ?_
  all_goals rfl
end Go.Proofs.Ytnicgkhffingmaa
