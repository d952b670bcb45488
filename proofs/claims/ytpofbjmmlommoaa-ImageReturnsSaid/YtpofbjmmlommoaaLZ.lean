/- Image: the example. -/
import Derived.Test.YtpofbjmmlommoaaT2
import Derived.Test.YtpofbjmmlommoaaS8
import Derived.Test.YtpofbjmmlommoaaS7
set_option linter.unusedVariables false
set_option linter.unusedSimpArgs false
namespace Go.Proofs.Ytpofbjmmlommoaa
open Go Av
set_option maxRecDepth 20000
theorem dig_size (n : Int) (X : List UInt8) : (dig n X).size = 32 := by
  show (outB _ 8).toArray.size = 32
  simp [outB]
theorem dgS_size (v p : Int) (d : ByteArray) : (dgS v p d).size = 32 := dig_size _ _
theorem aw0 : dgS 7 0 ⟨#[97, 98, 99, 100]⟩ = dig 0 [112, 97, 103, 101, 0, 7, 0, 0, 97, 98, 99, 100] := congrArg (dig 0) (by decide +kernel)
theorem aw1 : dgS 7 1 ⟨#[101]⟩ = dig 0 [112, 97, 103, 101, 0, 7, 0, 1, 101] := congrArg (dig 0) (by decide +kernel)
theorem aw2 : dgS 7 0 ⟨#[97, 98, 99, 101]⟩ = dig 0 [112, 97, 103, 101, 0, 7, 0, 0, 97, 98, 99, 101] := congrArg (dig 0) (by decide +kernel)
theorem aw_ne : dig 0 [112, 97, 103, 101, 0, 7, 0, 0, 97, 98, 99, 101] ≠ dig 0 [112, 97, 103, 101, 0, 7, 0, 0, 97, 98, 99, 100] := by decide +kernel
theorem aw_mk : mkL 7 ⟨#[97, 98, 99, 100, 101]⟩ 4 2 = [dig 0 [112, 97, 103, 101, 0, 7, 0, 0, 97, 98, 99, 100], dig 0 [112, 97, 103, 101, 0, 7, 0, 1, 101]] := by
  rw [← aw0, ← aw1]
  show [dgS 7 0 (pgS ⟨#[97, 98, 99, 100, 101]⟩ 4 0), dgS 7 1 (pgS ⟨#[97, 98, 99, 100, 101]⟩ 4 1)] = _
  rw [show pgS ⟨#[97, 98, 99, 100, 101]⟩ 4 0 = ⟨#[97, 98, 99, 100]⟩ by decide +kernel, show pgS ⟨#[97, 98, 99, 100, 101]⟩ 4 1 = ⟨#[101]⟩ by decide +kernel]
theorem aw_chk (A B : ByteArray) (hA : A.size = 32) (hB : B.size = 32) : chkM 7 5 4 2 [A, B] = 0 := by
  unfold chkM
  refine if_neg ?_
  rintro (h | h | h | h | h | h)
  · exact absurd h (by decide)
  · exact absurd h (by decide)
  · exact absurd h (by decide)
  · exact absurd h (by simp)
  · exact h rfl
  · refine h (fidx_no fun j hj q hq => ?_)
    match j, hq with
    | 0, hq => cases hq; simp [hA]
    | 1, hq => cases hq; simp [hB]
theorem aw_enc (A B : ByteArray) (hA : A.size = 32) (hB : B.size = 32) : (encS 7 5 4 2 [A, B]).size = 73 ∧ (encS 7 5 4 2 [A, B]).extract 0 9 = ⟨#[0, 7, 0, 0, 0, 5, 0, 4, 2]⟩ := by
  refine ⟨by rw [encS_size (by simp [hA, hB])]; rfl, ?_⟩
  unfold encS
  apply ByteArray.ext
  rw [ByteArray.data_extract, ByteArray.data_append, Array.extract_append]
  have e : (numS [(2, 7), (4, 5), (2, 4), (1, 2)]) = ⟨#[0, 7, 0, 0, 0, 5, 0, 4, 2]⟩ := by decide +kernel
  rw [e]
  simp
set_option maxHeartbeats 8000000 in
theorem ac_awake : ACalls Try.prog 11 [] [] (.bool true) [] := by
  have H1 := ac_make 7 ⟨#[97, 98, 99, 100, 101]⟩ 4 2 (by decide) 0 (by decide +kernel) 2 (by decide +kernel)
  rw [if_neg (by decide), if_neg (by decide), aw_mk] at H1
  have hne := aw_ne
  have h0 := dig_size 0 [112, 97, 103, 101, 0, 7, 0, 0, 97, 98, 99, 100]
  have h1 := dig_size 0 [112, 97, 103, 101, 0, 7, 0, 1, 101]
  have H5 := ac_Sum ⟨#[112, 97, 103, 101, 0, 7, 0, 1, 101]⟩ (by decide)
  have hv2 := aw2
  replace H1 : ACalls Try.prog 12 [.int .i64 7, .string ⟨#[97, 98, 99, 100, 101]⟩, .int .i64 4, .int .i64 2] [] (.tuple #[.agg #[.int .i64 7, .int .i64 5, .int .i64 4, .int .i64 2, .slice (some ⟨0, 0, none⟩) 2 2], .int .i64 0]) [some ⟨List.map Value.string [dig 0 [112, 97, 103, 101, 0, 7, 0, 0, 97, 98, 99, 100], dig 0 [112, 97, 103, 101, 0, 7, 0, 1, 101]], true, 1⟩] := H1
  replace H5 : ACalls Try.prog 32 [.string ⟨#[112, 97, 103, 101, 0, 7, 0, 1, 101]⟩] [] (.string (dig 0 [112, 97, 103, 101, 0, 7, 0, 1, 101])) [] := H5
  generalize dig 0 [112, 97, 103, 101, 0, 7, 0, 0, 97, 98, 99, 100] = A at *
  generalize dig 0 [112, 97, 103, 101, 0, 7, 0, 1, 101] = B at *
  generalize dig 0 [112, 97, 103, 101, 0, 7, 0, 0, 97, 98, 99, 101] = C at *
  have hc := aw_chk A B h0 h1
  have H2 := ac_packets 7 5 4 2 0 [A, B] 2 rfl (by decide) 0 hc 0 (by decide) 2 (by decide)
  have H3 := ac_span 7 5 4 2 1 0 [A, B] 2 rfl (by decide) 0 hc 0 (by decide) 1 (by decide) 0 (by decide) 4 5 (by decide) (by decide)
  have H4 := ac_Encode 7 5 4 2 [A, B] 2 rfl (by decide) 0 hc (encS 7 5 4 2 [A, B]) (if_neg (by decide))
  obtain ⟨e1, e2⟩ := aw_enc A B h0 h1
  have H6 := ac_verify 7 5 4 2 0 [A, B] 2 rfl (by decide) ⟨#[97, 98, 99, 101]⟩ (by decide) 0 hc 0 (by decide) 20 (by
    unfold vfE
    rw [if_neg (by decide), if_neg (by decide), if_pos]
    rw [hv2]
    simpa using hne)
  generalize encS 7 5 4 2 [A, B] = E at *
  clear hc hv2 hne
  refine acalls_pure Try.func11 rfl rfl rfl ?_
  repeat' first
    | refine sdl (h := ok_load_mapE (f := Value.string) 0 (show [A, B][0]? = some A from rfl) rfl rfl rfl (by omega)) ?_
    | refine sdl (h := ok_load_mapE (f := Value.string) 1 (show [A, B][1]? = some B from rfl) rfl rfl rfl (by omega)) ?_
    | refine st (h := ok_load_mapE (f := Value.string) 0 (show [A, B][0]? = some A from rfl) rfl rfl rfl (by omega)) ?_
    | refine st (h := ok_load_mapE (f := Value.string) 1 (show [A, B][1]? = some B from rfl) rfl rfl rfl (by omega)) ?_
    | refine sd (h := by (rw [← e2]; exact ok_slice_str rfl BndR.none (BndR.some rfl (by omega)) (by omega))) ?_
    | refine st (h := ok_str_eqlT rfl rfl) ?_
    | refine st (h := ok_str_neqF rfl rfl) ?_
    | refine sd (h := ok_str_eqlT rfl rfl) ?_
    | refine sd (h := ok_str_neqF rfl rfl) ?_
    | refine sd (h := ok_str_eql rfl rfl) ?_
    | refine st ?_
    | refine stMW [] H1 ?_
    | refine stRW [0] H2 ?_
    | refine stRW [0] H3 ?_
    | refine stRW [0] H4 ?_
    | refine stRW [0] H6 ?_
    | refine sdRW [0] H2 ?_
    | refine sdRW [0] H3 ?_
    | refine sdRW [0] H4 ?_
    | refine sdRW [0] H6 ?_
    | refine st_call (H5) ?_
    | refine sd_call (H5) ?_
    | refine stm ?_
    | refine run_want rfl rfl ?_
    | refine run_unwant rfl rfl ?_
    | refine run_undef rfl rfl ?_
    | refine run_guard1t rfl rfl (by omega) ?_
    | refine run_guard1f rfl rfl (by omega) ?_
    | refine run_guard0t rfl rfl (by omega) ?_
    | refine run_guard0f rfl rfl (by omega) ?_
    | refine run_guard1 rfl rfl (fun h1 => ?_) (fun h1 => ?_)
    | refine run_guard0 rfl rfl (fun h1 => ?_) (fun h1 => ?_)
    | refine run_guard rfl rfl (fun h1 => ?_) (fun h1 => ?_)
    | refine run_nil ?_
    | refine sd ?_
    | refine sdl ?_
    | refine sdm (n := 1) ?_
    | refine sdm ?_
    | refine sdb ?_
    | refine rund_want rfl rfl ?_
    | refine rund_unwant rfl rfl ?_
    | refine rund_undef rfl rfl ?_
    | refine rund_guard1 rfl rfl (fun h1 => ?_) (fun h1 => ?_)
    | refine rund_guard0 rfl rfl (fun h1 => ?_) (fun h1 => ?_)
    | refine rund_guard rfl rfl (fun h1 => ?_) (fun h1 => ?_)
    | refine rund_nil ?_
    | refine aw_seq ?_
    | refine aw_region (by kernel_rfl) (Nat.le_of_ble_eq_true rfl) ?_
    | refine aw_region_dC (id := 5) [0, 1, 3, 7, 15, 31, 63, 127, 255, 511, 1023, 2047, 4095, 8191, 16383, 32767, 65535, 131071, 262143, 524287, 1048575, 2097151, 4194303, 8388607, 16777215, 2097151, 67108863, 134217727, 268435455, 536870911, 1073741823, 2147483647, 4294967295, 8589934591, 17179869183, 34359738367, 68719476735, 137438953471, 274877906943, 549755813887, 1099511627775, 2199023255551, 4398046511103, 8796093022207, 17592186044415, 35184372088831, 70368744177663, 140737488355327, 281474976710655, 562949953421311, 1125899906842623, 2251799813685247, 4503599627370495, 9007199254740991, 18014398509481983, 36028797018963967, 72057594037927935, 144115188075855871, 288230376151711743, 576460752303423487, 1152921504606846975, 2305843009213693951, 4611686018427387903, 9223372036854775807] 64 (by (repeat constructor)) (by kernel_rfl) (by kernel_rfl) (by kernel_rfl) (by rfl) ?_
    | refine aw_block ?_
    | refine aw_cond_t rfl ?_
    | refine aw_cond_f rfl ?_
    | refine aw_cond_tp rfl (by omega) ?_
    | refine aw_cond_fp rfl (by omega) ?_
    | refine aw_cond1 rfl (fun h1 => ?_) (fun h1 => ?_)
    | refine aw_cond rfl (fun h1 => ?_) (fun h1 => ?_)
    | refine aw_skip ?_
    | refine aw_exit ?_
    | refine aw_ret ?_
    | refine pp_ret ?_
    | refine pp_normal ?_
  all_goals first
    | rfl
    | (exfalso; omega)
    | (simp [retOf]; done)
    | (exfalso; simp_all; done)
end Go.Proofs.Ytpofbjmmlommoaa
