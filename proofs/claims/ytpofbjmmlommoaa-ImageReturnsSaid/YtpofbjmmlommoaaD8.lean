/- Digest: a state begins; whole digests. -/
import Derived.Test.YtpofbjmmlommoaaD7
import Derived.Test.YtpofbjmmlommoaaVF
set_option linter.unusedVariables false
set_option linter.unusedSimpArgs false
namespace Go.Proofs.Ytpofbjmmlommoaa
open Go Av
set_option maxRecDepth 20000
def iv0 (n : Int) : Int := x32 1779033703 (IntKind.u32.wrap (16842784 + IntKind.u32.wrap (256 * n)))
def ivk (n : Int) : List Int := [iv0 n, 3144134277, 1013904242, 2773480762, 1359893119, 2600822924, 528734635, 1541459225]
/-- The digest of bytes, of which the first 64 are a key's if n is its length. -/
def dig (n : Int) (X : List UInt8) : ByteArray :=
  ⟨(outB (cmp (ab X 0 (ivk n) ((X.length - 1) / 64)) (wd (fun j => ((X.getD (64 * ((X.length - 1) / 64) + j) 0).toNat : Int)) (X.length - 64 * ((X.length - 1) / 64))) X.length true) 8).toArray⟩
theorem bs0 {d : ByteArray} : d = ⟨#[]⟩ ↔ d.size = 0 := by
  obtain ⟨l⟩ := d
  constructor
  · rintro h; rw [h]; rfl
  · intro h
    have : l = #[] := Array.eq_empty_of_size_eq_zero h
    rw [this]
set_option maxHeartbeats 1000000 in
theorem ac_start0 (d : ByteArray) (n : Int) (h : d.size = n) (h0 : n = 0) : ACalls Try.prog 52 [.string d] [] (.agg #[.int .u32 (iv0 n), .int .u32 3144134277, .int .u32 1013904242, .int .u32 2773480762, .int .u32 1359893119, .int .u32 2600822924, .int .u32 528734635, .int .u32 1541459225, .slice (some ⟨0, 0, none⟩) 0 0, .int .u64 0]) [some ⟨[], true, 1⟩] := by
  refine acalls_of_aw Try.func52 rfl rfl ?_
  refine aw_ghost 1 rfl ?_
  repeat' first
    | refine st ?_
    | refine st_call (aw_init) ?_
    | refine stm ?_
    | refine run_want rfl rfl ?_
    | refine run_unwant rfl rfl ?_
    | refine run_undef rfl rfl ?_
    | refine run_guard1t rfl rfl (by omega) ?_
    | refine run_guard1f rfl rfl (by omega) ?_
    | refine run_guard0t rfl rfl (by omega) ?_
    | refine run_guard0f rfl rfl (by omega) ?_
    | refine run_guard1 rfl rfl (fun h1 => ?_) (fun h1 => ?_)
    | refine run_guard0 rfl rfl (fun h1 => ?_) (fun h1 => ?_)
    | refine run_guard rfl rfl (fun h1 => ?_) (fun h1 => ?_)
    | refine run_nil ?_
    | refine aw_seq ?_
    | refine aw_region (by kernel_rfl) (Nat.le_of_ble_eq_true rfl) ?_
    | refine aw_block ?_
    | refine aw_cond_t rfl ?_
    | refine aw_cond_f rfl ?_
    | refine aw_cond_tp rfl (by omega) ?_
    | refine aw_cond_fp rfl (by omega) ?_
    | refine aw_cond1 rfl (fun h1 => ?_) (fun h1 => ?_)
    | refine aw_cond rfl (fun h1 => ?_) (fun h1 => ?_)
    | refine aw_skip ?_
    | refine aw_exit ?_
    | refine aw_ret ?_
    | refine pp_ret ?_
    | refine pp_normal ?_
  · exact absurd (bs0.2 (by omega)) h1
  · rw [h]
    refine pmw_ret _ (renumA [0]) ?_
    exact (Wk.aggL (by repeat (first | exact WkL.nil | (apply WkL.cons; (first | exact Wk.refl _ | exact Wk.nil)))))
def pad (d : List UInt8) : List UInt8 := d ++ List.replicate (64 - d.length) 0
theorem pad_len (d : List UInt8) (h : d.length ≤ 64) : (pad d).length = 64 := by simp [pad]; omega
set_option maxHeartbeats 1000000 in
theorem ac_startK (d : ByteArray) (n : Int) (h : d.size = n) (h0 : 0 < n ∧ n ≤ 32) (X : List UInt8) (hX : pad d.data.toList = X) : ACalls Try.prog 52 [.string d] [] (.agg #[.int .u32 (iv0 n), .int .u32 3144134277, .int .u32 1013904242, .int .u32 2773480762, .int .u32 1359893119, .int .u32 2600822924, .int .u32 528734635, .int .u32 1541459225, .slice (some ⟨0, 0, none⟩) 64 64, .int .u64 0]) [some ⟨X.map u8v, true, 1⟩] := by
  have hds : d.data.toList.length = d.size := Array.length_toList (xs := d.data)
  refine acalls_of_aw Try.func52 rfl rfl ?_
  repeat' first
    | refine st ?_
    | refine st_call (aw_init) ?_
    | refine stm ?_
    | refine run_want rfl rfl ?_
    | refine run_unwant rfl rfl ?_
    | refine run_undef rfl rfl ?_
    | refine run_guard1t rfl rfl (by omega) ?_
    | refine run_guard1f rfl rfl (by omega) ?_
    | refine run_guard0t rfl rfl (by omega) ?_
    | refine run_guard0f rfl rfl (by omega) ?_
    | refine run_guard1 rfl rfl (fun h1 => ?_) (fun h1 => ?_)
    | refine run_guard0 rfl rfl (fun h1 => ?_) (fun h1 => ?_)
    | refine run_guard rfl rfl (fun h1 => ?_) (fun h1 => ?_)
    | refine run_nil ?_
    | refine aw_seq ?_
    | refine aw_region (by kernel_rfl) (Nat.le_of_ble_eq_true rfl) ?_
    | refine aw_block ?_
    | refine aw_cond_t rfl ?_
    | refine aw_cond_f rfl ?_
    | refine aw_cond_tp rfl (by omega) ?_
    | refine aw_cond_fp rfl (by omega) ?_
    | refine aw_cond1 rfl (fun h1 => ?_) (fun h1 => ?_)
    | refine aw_cond rfl (fun h1 => ?_) (fun h1 => ?_)
    | refine aw_skip ?_
    | refine aw_exit ?_
    | refine aw_ret ?_
    | refine pp_ret ?_
    | refine pp_normal ?_
  · have hq : List.map u8v d.data.toList ++ List.replicate (64 - d.size) (.int .u8 0) = X.map u8v := by rw [← hX, pad, List.map_append, List.map_replicate, hds]; rfl
    have e64 : d.size + (64 - d.size) = 64 := by omega
    refine run_step (ok_append_zeros (k := 64 - d.size) (cs := X.map u8v) (olds := d.data.toList.map u8v) rfl rfl rfl rfl rfl rfl rfl (by omega) (by omega) (by simp) (take_full (by simp)) hq (by omega) (by (repeat constructor))) (Nat.le_of_ble_eq_true rfl) ?_
    rw [e64]
    repeat' first
      | refine st ?_
      | refine stm ?_
      | refine run_want rfl rfl ?_
      | refine run_unwant rfl rfl ?_
      | refine run_undef rfl rfl ?_
      | refine run_guard1t rfl rfl (by omega) ?_
      | refine run_guard1f rfl rfl (by omega) ?_
      | refine run_guard0t rfl rfl (by omega) ?_
      | refine run_guard0f rfl rfl (by omega) ?_
      | refine run_guard1 rfl rfl (fun h1 => ?_) (fun h1 => ?_)
      | refine run_guard0 rfl rfl (fun h1 => ?_) (fun h1 => ?_)
      | refine run_guard rfl rfl (fun h1 => ?_) (fun h1 => ?_)
      | refine run_nil ?_
      | refine aw_seq ?_
      | refine aw_region (by kernel_rfl) (Nat.le_of_ble_eq_true rfl) ?_
      | refine aw_block ?_
      | refine aw_cond_t rfl ?_
      | refine aw_cond_f rfl ?_
      | refine aw_cond_tp rfl (by omega) ?_
      | refine aw_cond_fp rfl (by omega) ?_
      | refine aw_cond1 rfl (fun h1 => ?_) (fun h1 => ?_)
      | refine aw_cond rfl (fun h1 => ?_) (fun h1 => ?_)
      | refine aw_skip ?_
      | refine aw_exit ?_
      | refine aw_ret ?_
      | refine pp_ret ?_
      | refine pp_normal ?_
    rw [h]
    exact pm_ret _ (renumA [3]) rfl
  · exact absurd (bs0.1 (Decidable.not_not.1 h1)) (by omega)
set_option maxHeartbeats 4000000 in
theorem ac_Sum (d : ByteArray) (h : d.size ≤ 1048576) : ACalls Try.prog 32 [.string d] [] (.string (dig 0 d.data.toList)) [] := by
  have hds : d.data.toList.length = d.size := Array.length_toList (xs := d.data)
  have hpl : (0 : Nat) = 0 := rfl
  obtain ⟨X, hX⟩ : ∃ X, d.data.toList = X := ⟨_, rfl⟩
  obtain ⟨K, hK⟩ : ∃ K, (X.length - 1) / 64 = K := ⟨_, rfl⟩
  obtain ⟨A, hA⟩ : ∃ A, ab X 0 (ivk 0) K = A := ⟨_, rfl⟩
  obtain ⟨C, hC⟩ : ∃ C, cmp A (wd (fun j => ((X.getD (64 * K + j) 0).toNat : Int)) (X.length - 64 * K)) X.length true = C := ⟨_, rfl⟩
  have hXl : X.length = 0 + d.size := by rw [← hX]; simp [hds, hpl]
  have hAl : A.length = 8 := by rw [← hA, ab_len]; rfl
  have hdg : dig 0 X = ⟨(outB C 8).toArray⟩ := by simp only [dig, hK, hA, hC]
  have hS := ac_start0 ⟨#[]⟩ 0 rfl rfl
  have hT := ac_takeB (iv0 0) 3144134277 1013904242 2773480762 1359893119 2600822924 528734635 1541459225 0 d [] 0 0 (by simp [hpl]) X (by rw [← hX]; first | (rw [List.drop_zero, List.take_of_length_le (by rw [hpl]; exact Nat.le_refl _)]; done) | simp [hpl]) (by omega) (by omega) (by omega) K hK.symm
  rw [show [iv0 0, 3144134277, 1013904242, 2773480762, 1359893119, 2600822924, 528734635, 1541459225] = ivk 0 from rfl, hA] at hT
  have hF := ac_sum1 (A.getD 0 0) (A.getD 1 0) (A.getD 2 0) (A.getD 3 0) (A.getD 4 0) (A.getD 5 0) (A.getD 6 0) (A.getD 7 0) (0 + 64 * (K : Int)) X (X.length - 64 * K) (64 * K) (by omega) (by omega) (by omega) (by omega) C (by rw [list8_eq hAl, ← hC]; congr 1; omega)
  try simp only [hX]
  rw [hdg]
  refine acalls_pure Try.func32 rfl rfl rfl ?_
  repeat' first
    | refine st ?_
    | refine stM [] hS ?_
    | refine stM [1, 0] hT ?_
    | refine stR [2] hF ?_
    | refine sdR [2] hF ?_
    | refine stm ?_
    | refine run_want rfl rfl ?_
    | refine run_unwant rfl rfl ?_
    | refine run_undef rfl rfl ?_
    | refine run_guard1t rfl rfl (by omega) ?_
    | refine run_guard1f rfl rfl (by omega) ?_
    | refine run_guard0t rfl rfl (by omega) ?_
    | refine run_guard0f rfl rfl (by omega) ?_
    | refine run_guard1 rfl rfl (fun h1 => ?_) (fun h1 => ?_)
    | refine run_guard0 rfl rfl (fun h1 => ?_) (fun h1 => ?_)
    | refine run_guard rfl rfl (fun h1 => ?_) (fun h1 => ?_)
    | refine run_nil ?_
    | refine aw_seq ?_
    | refine aw_region (by kernel_rfl) (Nat.le_of_ble_eq_true rfl) ?_
    | refine aw_block ?_
    | refine aw_cond_t rfl ?_
    | refine aw_cond_f rfl ?_
    | refine aw_cond_tp rfl (by omega) ?_
    | refine aw_cond_fp rfl (by omega) ?_
    | refine aw_cond1 rfl (fun h1 => ?_) (fun h1 => ?_)
    | refine aw_cond rfl (fun h1 => ?_) (fun h1 => ?_)
    | refine aw_skip ?_
    | refine aw_exit ?_
    | refine aw_ret ?_
    | refine pp_ret ?_
    | refine pp_normal ?_
  rfl
/-- What is digested with a key. -/
def kx (k d : List UInt8) : List UInt8 := if k = [] then d else pad k ++ d
theorem kx_len (k d : List UInt8) : (kx k d).length ≤ k.length + d.length + 64 := by
  unfold kx
  split
  · omega
  · simp [pad]; omega
end Go.Proofs.Ytpofbjmmlommoaa
