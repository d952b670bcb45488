/- Digest: a state begins; whole digests. -/
import Derived.Test.YtnicgkhffingmaaD7
import Derived.Test.YtnicgkhffingmaaVF
set_option linter.unusedVariables false
set_option linter.unusedSimpArgs false
namespace Go.Proofs.Ytnicgkhffingmaa
open Go Av
set_option maxRecDepth 20000
def iv0 (n : Int) : Int := x32 1779033703 (IntKind.u32.wrap (16842784 + IntKind.u32.wrap (256 * n)))
def ivk (n : Int) : List Int := [iv0 n, 3144134277, 1013904242, 2773480762, 1359893119, 2600822924, 528734635, 1541459225]
/-- The digest of bytes, of which the first 64 are a key's if n is its length. -/
def dig (n : Int) (X : List UInt8) : ByteArray :=
  ⟨(outB (cmp (ab X 0 (ivk n) ((X.length - 1) / 64)) (wd (fun j => ((X.getD (64 * ((X.length - 1) / 64) + j) 0).toNat : Int)) (X.length - 64 * ((X.length - 1) / 64))) X.length true) 8).toArray⟩
theorem bs0 {d : ByteArray} : d = ⟨#[]⟩ ↔ d.size = 0 := by
  obtain ⟨l⟩ := d
  constructor
  · rintro h; rw [h]; rfl
  · intro h
    have : l = #[] := Array.eq_empty_of_size_eq_zero h
    rw [this]
set_option maxHeartbeats 1000000 in
theorem ac_start0 (d : ByteArray) (n : Int) (h : d.size = n) (h0 : n = 0) : ACalls Try.prog 13 [.string d] [] (.agg #[.int .u32 (iv0 n), .int .u32 3144134277, .int .u32 1013904242, .int .u32 2773480762, .int .u32 1359893119, .int .u32 2600822924, .int .u32 528734635, .int .u32 1541459225, .slice (some ⟨0, 0, none⟩) 0 0, .int .u64 0]) [some ⟨[], true, 1⟩] := by
  refine acalls_of_aw Try.func13 rfl rfl ?_
  refine aw_ghost 1 rfl ?_
  repeat' first
    | refine st ?_
    | refine st_call (aw_init) ?_
    | refine stm ?_
    | refine run_want rfl rfl ?_
    | refine run_unwant rfl rfl ?_
    | refine run_undef rfl rfl ?_
    | refine run_guard1t rfl rfl (by omega) ?_
    | refine run_guard1f rfl rfl (by omega) ?_
    | refine run_guard0t rfl rfl (by omega) ?_
    | refine run_guard0f rfl rfl (by omega) ?_
    | refine run_guard1 rfl rfl (fun h1 => ?_) (fun h1 => ?_)
    | refine run_guard0 rfl rfl (fun h1 => ?_) (fun h1 => ?_)
    | refine run_guard rfl rfl (fun h1 => ?_) (fun h1 => ?_)
    | refine run_nil ?_
    | refine aw_seq ?_
    | refine aw_region (by kernel_rfl) (Nat.le_of_ble_eq_true rfl) ?_
    | refine aw_block ?_
    | refine aw_cond_t rfl ?_
    | refine aw_cond_f rfl ?_
    | refine aw_cond_tp rfl (by omega) ?_
    | refine aw_cond_fp rfl (by omega) ?_
    | refine aw_cond1 rfl (fun h1 => ?_) (fun h1 => ?_)
    | refine aw_cond rfl (fun h1 => ?_) (fun h1 => ?_)
    | refine aw_skip ?_
    | refine aw_exit ?_
    | refine aw_ret ?_
    | refine pp_ret ?_
    | refine pp_normal ?_
  · exact absurd (bs0.2 (by omega)) h1
  · rw [h]
    refine pmw_ret _ (renumA [0]) ?_
    exact (Wk.aggL (by repeat (first | exact WkL.nil | (apply WkL.cons; (first | exact Wk.refl _ | exact Wk.nil)))))
def pad (d : List UInt8) : List UInt8 := d ++ List.replicate (64 - d.length) 0
theorem pad_len (d : List UInt8) (h : d.length ≤ 64) : (pad d).length = 64 := by simp [pad]; omega
set_option maxHeartbeats 1000000 in
theorem ac_startK (d : ByteArray) (n : Int) (h : d.size = n) (h0 : 0 < n ∧ n ≤ 32) (X : List UInt8) (hX : pad d.data.toList = X) : ACalls Try.prog 13 [.string d] [] (.agg #[.int .u32 (iv0 n), .int .u32 3144134277, .int .u32 1013904242, .int .u32 2773480762, .int .u32 1359893119, .int .u32 2600822924, .int .u32 528734635, .int .u32 1541459225, .slice (some ⟨0, 0, none⟩) 64 64, .int .u64 0]) [some ⟨X.map u8v, true, 1⟩] := by
  have hds : d.data.toList.length = d.size := Array.length_toList (xs := d.data)
  refine acalls_of_aw Try.func13 rfl rfl ?_
  repeat' first
    | refine st ?_
    | refine st_call (aw_init) ?_
    | refine stm ?_
    | refine run_want rfl rfl ?_
    | refine run_unwant rfl rfl ?_
    | refine run_undef rfl rfl ?_
    | refine run_guard1t rfl rfl (by omega) ?_
    | refine run_guard1f rfl rfl (by omega) ?_
    | refine run_guard0t rfl rfl (by omega) ?_
    | refine run_guard0f rfl rfl (by omega) ?_
    | refine run_guard1 rfl rfl (fun h1 => ?_) (fun h1 => ?_)
    | refine run_guard0 rfl rfl (fun h1 => ?_) (fun h1 => ?_)
    | refine run_guard rfl rfl (fun h1 => ?_) (fun h1 => ?_)
    | refine run_nil ?_
    | refine aw_seq ?_
    | refine aw_region (by kernel_rfl) (Nat.le_of_ble_eq_true rfl) ?_
    | refine aw_block ?_
    | refine aw_cond_t rfl ?_
    | refine aw_cond_f rfl ?_
    | refine aw_cond_tp rfl (by omega) ?_
    | refine aw_cond_fp rfl (by omega) ?_
    | refine aw_cond1 rfl (fun h1 => ?_) (fun h1 => ?_)
    | refine aw_cond rfl (fun h1 => ?_) (fun h1 => ?_)
    | refine aw_skip ?_
    | refine aw_exit ?_
    | refine aw_ret ?_
    | refine pp_ret ?_
    | refine pp_normal ?_
  · have hq : List.map u8v d.data.toList ++ List.replicate (64 - d.size) (.int .u8 0) = X.map u8v := by rw [← hX, pad, List.map_append, List.map_replicate, hds]; rfl
    have e64 : d.size + (64 - d.size) = 64 := by omega
    refine run_step (ok_append_zeros (k := 64 - d.size) (cs := X.map u8v) (olds := d.data.toList.map u8v) rfl rfl rfl rfl rfl rfl rfl (by omega) (by omega) (by simp) (take_full (by simp)) hq (by omega) (by (repeat constructor))) (Nat.le_of_ble_eq_true rfl) ?_
    rw [e64]
    repeat' first
      | refine st ?_
      | refine stm ?_
      | refine run_want rfl rfl ?_
      | refine run_unwant rfl rfl ?_
      | refine run_undef rfl rfl ?_
      | refine run_guard1t rfl rfl (by omega) ?_
      | refine run_guard1f rfl rfl (by omega) ?_
      | refine run_guard0t rfl rfl (by omega) ?_
      | refine run_guard0f rfl rfl (by omega) ?_
      | refine run_guard1 rfl rfl (fun h1 => ?_) (fun h1 => ?_)
      | refine run_guard0 rfl rfl (fun h1 => ?_) (fun h1 => ?_)
      | refine run_guard rfl rfl (fun h1 => ?_) (fun h1 => ?_)
      | refine run_nil ?_
      | refine aw_seq ?_
      | refine aw_region (by kernel_rfl) (Nat.le_of_ble_eq_true rfl) ?_
      | refine aw_block ?_
      | refine aw_cond_t rfl ?_
      | refine aw_cond_f rfl ?_
      | refine aw_cond_tp rfl (by omega) ?_
      | refine aw_cond_fp rfl (by omega) ?_
      | refine aw_cond1 rfl (fun h1 => ?_) (fun h1 => ?_)
      | refine aw_cond rfl (fun h1 => ?_) (fun h1 => ?_)
      | refine aw_skip ?_
      | refine aw_exit ?_
      | refine aw_ret ?_
      | refine pp_ret ?_
      | refine pp_normal ?_
    rw [h]
    exact pm_ret _ (renumA [3]) rfl
  · exact absurd (bs0.1 (Decidable.not_not.1 h1)) (by omega)
set_option maxHeartbeats 4000000 in
theorem ac_Sum (d : ByteArray) (h : d.size ≤ 1048576) : ACalls Try.prog 8 [.string d] [] (.string (dig 0 d.data.toList)) [] := by
  have hds : d.data.toList.length = d.size := Array.length_toList (xs := d.data)
  have hpl : (0 : Nat) = 0 := rfl
  obtain ⟨X, hX⟩ : ∃ X, d.data.toList = X := ⟨_, rfl⟩
  obtain ⟨K, hK⟩ : ∃ K, (X.length - 1) / 64 = K := ⟨_, rfl⟩
  obtain ⟨A, hA⟩ : ∃ A, ab X 0 (ivk 0) K = A := ⟨_, rfl⟩
  obtain ⟨C, hC⟩ : ∃ C, cmp A (wd (fun j => ((X.getD (64 * K + j) 0).toNat : Int)) (X.length - 64 * K)) X.length true = C := ⟨_, rfl⟩
  have hXl : X.length = 0 + d.size := by rw [← hX]; simp [hds, hpl]
  have hAl : A.length = 8 := by rw [← hA, ab_len]; rfl
  have hdg : dig 0 X = ⟨(outB C 8).toArray⟩ := by simp only [dig, hK, hA, hC]
  have hS := ac_start0 ⟨#[]⟩ 0 rfl rfl
  have hT := ac_takeB (iv0 0) 3144134277 1013904242 2773480762 1359893119 2600822924 528734635 1541459225 0 d [] 0 0 (by simp [hpl]) X (by rw [← hX]; first | (rw [List.drop_zero, List.take_of_length_le (by rw [hpl]; exact Nat.le_refl _)]; done) | simp [hpl]) (by omega) (by omega) (by omega) K hK.symm
  rw [show [iv0 0, 3144134277, 1013904242, 2773480762, 1359893119, 2600822924, 528734635, 1541459225] = ivk 0 from rfl, hA] at hT
  have hF := ac_sum1 (A.getD 0 0) (A.getD 1 0) (A.getD 2 0) (A.getD 3 0) (A.getD 4 0) (A.getD 5 0) (A.getD 6 0) (A.getD 7 0) (0 + 64 * (K : Int)) X (X.length - 64 * K) (64 * K) (by omega) (by omega) (by omega) (by omega) C (by rw [list8_eq hAl, ← hC]; congr 1; omega)
  try simp only [hX]
  rw [hdg]
  refine acalls_pure Try.func8 rfl rfl rfl ?_
  repeat' first
    | refine st ?_
    | refine stM [] hS ?_
    | refine stM [1, 0] hT ?_
    | refine stR [2] hF ?_
    | refine sdR [2] hF ?_
    | refine stm ?_
    | refine run_want rfl rfl ?_
    | refine run_unwant rfl rfl ?_
    | refine run_undef rfl rfl ?_
    | refine run_guard1t rfl rfl (by omega) ?_
    | refine run_guard1f rfl rfl (by omega) ?_
    | refine run_guard0t rfl rfl (by omega) ?_
    | refine run_guard0f rfl rfl (by omega) ?_
    | refine run_guard1 rfl rfl (fun h1 => ?_) (fun h1 => ?_)
    | refine run_guard0 rfl rfl (fun h1 => ?_) (fun h1 => ?_)
    | refine run_guard rfl rfl (fun h1 => ?_) (fun h1 => ?_)
    | refine run_nil ?_
    | refine aw_seq ?_
    | refine aw_region (by kernel_rfl) (Nat.le_of_ble_eq_true rfl) ?_
    | refine aw_block ?_
    | refine aw_cond_t rfl ?_
    | refine aw_cond_f rfl ?_
    | refine aw_cond_tp rfl (by omega) ?_
    | refine aw_cond_fp rfl (by omega) ?_
    | refine aw_cond1 rfl (fun h1 => ?_) (fun h1 => ?_)
    | refine aw_cond rfl (fun h1 => ?_) (fun h1 => ?_)
    | refine aw_skip ?_
    | refine aw_exit ?_
    | refine aw_ret ?_
    | refine pp_ret ?_
    | refine pp_normal ?_
  rfl
/-- What is digested with a key. -/
def kx (k d : List UInt8) : List UInt8 := if k = [] then d else pad k ++ d
theorem kx_len (k d : List UInt8) : (kx k d).length ≤ k.length + d.length + 64 := by
  unfold kx
  split
  · omega
  · simp [pad]; omega
set_option maxHeartbeats 4000000 in
theorem ac_Keyed0 (k d : ByteArray) (hk : k.size = 0) (h : d.size ≤ 1048000) : ACalls Try.prog 11 [.string k, .string d] [] (.tuple #[.string (dig (k.size : Int) (kx k.data.toList d.data.toList)), .int .i64 0]) [] := by
  have hds : d.data.toList.length = d.size := Array.length_toList (xs := d.data)
  have hks : k.data.toList.length = k.size := Array.length_toList (xs := k.data)
  have hpl : (0 : Nat) = 0 := rfl
  have hk0 : k.data.toList = [] := List.eq_nil_of_length_eq_zero (by omega)
  rw [kx, if_pos hk0, hk]
  obtain ⟨X, hX⟩ : ∃ X, d.data.toList = X := ⟨_, rfl⟩
  obtain ⟨K, hK⟩ : ∃ K, (X.length - 1) / 64 = K := ⟨_, rfl⟩
  obtain ⟨A, hA⟩ : ∃ A, ab X 0 (ivk ((0 : Nat) : Int)) K = A := ⟨_, rfl⟩
  obtain ⟨C, hC⟩ : ∃ C, cmp A (wd (fun j => ((X.getD (64 * K + j) 0).toNat : Int)) (X.length - 64 * K)) X.length true = C := ⟨_, rfl⟩
  have hXl : X.length = 0 + d.size := by rw [← hX]; simp [hds, hpl]
  have hAl : A.length = 8 := by rw [← hA, ab_len]; rfl
  have hdg : dig ((0 : Nat) : Int) X = ⟨(outB C 8).toArray⟩ := by simp only [dig, hK, hA, hC]
  have hS := ac_start0 k 0 (by omega) rfl
  have hT := ac_takeB (iv0 ((0 : Nat) : Int)) 3144134277 1013904242 2773480762 1359893119 2600822924 528734635 1541459225 0 d [] 0 0 (by simp [hpl]) X (by rw [← hX]; first | (rw [List.drop_zero, List.take_of_length_le (by rw [hpl]; exact Nat.le_refl _)]; done) | simp [hpl]) (by omega) (by omega) (by omega) K hK.symm
  rw [show [iv0 ((0 : Nat) : Int), 3144134277, 1013904242, 2773480762, 1359893119, 2600822924, 528734635, 1541459225] = ivk ((0 : Nat) : Int) from rfl, hA] at hT
  have hF := ac_sum1 (A.getD 0 0) (A.getD 1 0) (A.getD 2 0) (A.getD 3 0) (A.getD 4 0) (A.getD 5 0) (A.getD 6 0) (A.getD 7 0) (0 + 64 * (K : Int)) X (X.length - 64 * K) (64 * K) (by omega) (by omega) (by omega) (by omega) C (by rw [list8_eq hAl, ← hC]; congr 1; omega)
  try simp only [hX]
  rw [hdg]
  refine acalls_pure Try.func11 rfl rfl rfl ?_
  repeat' first
    | refine st ?_
    | refine stM [] hS ?_
    | refine stM [1, 0] hT ?_
    | refine stR [2] hF ?_
    | refine sdR [2] hF ?_
    | refine stm ?_
    | refine run_want rfl rfl ?_
    | refine run_unwant rfl rfl ?_
    | refine run_undef rfl rfl ?_
    | refine run_guard1t rfl rfl (by omega) ?_
    | refine run_guard1f rfl rfl (by omega) ?_
    | refine run_guard0t rfl rfl (by omega) ?_
    | refine run_guard0f rfl rfl (by omega) ?_
    | refine run_guard1 rfl rfl (fun h1 => ?_) (fun h1 => ?_)
    | refine run_guard0 rfl rfl (fun h1 => ?_) (fun h1 => ?_)
    | refine run_guard rfl rfl (fun h1 => ?_) (fun h1 => ?_)
    | refine run_nil ?_
    | refine aw_seq ?_
    | refine aw_region (by kernel_rfl) (Nat.le_of_ble_eq_true rfl) ?_
    | refine aw_block ?_
    | refine aw_cond_t rfl ?_
    | refine aw_cond_f rfl ?_
    | refine aw_cond_tp rfl (by omega) ?_
    | refine aw_cond_fp rfl (by omega) ?_
    | refine aw_cond1 rfl (fun h1 => ?_) (fun h1 => ?_)
    | refine aw_cond rfl (fun h1 => ?_) (fun h1 => ?_)
    | refine aw_skip ?_
    | refine aw_exit ?_
    | refine aw_ret ?_
    | refine pp_ret ?_
    | refine pp_normal ?_
  rfl
set_option maxHeartbeats 4000000 in
theorem ac_KeyedK (k d : ByteArray) (hk : 0 < k.size ∧ k.size ≤ 32) (h : d.size ≤ 1048000) : ACalls Try.prog 11 [.string k, .string d] [] (.tuple #[.string (dig (k.size : Int) (kx k.data.toList d.data.toList)), .int .i64 0]) [] := by
  have hds : d.data.toList.length = d.size := Array.length_toList (xs := d.data)
  have hks : k.data.toList.length = k.size := Array.length_toList (xs := k.data)
  have hpl : (pad k.data.toList).length = 64 := pad_len _ (by omega)
  have hk0 : k.data.toList ≠ [] := fun h => by rw [h] at hks; simp at hks; omega
  rw [kx, if_neg hk0]
  obtain ⟨X, hX⟩ : ∃ X, (pad k.data.toList ++ d.data.toList) = X := ⟨_, rfl⟩
  obtain ⟨K, hK⟩ : ∃ K, (X.length - 1) / 64 = K := ⟨_, rfl⟩
  obtain ⟨A, hA⟩ : ∃ A, ab X 0 (ivk (k.size : Int)) K = A := ⟨_, rfl⟩
  obtain ⟨C, hC⟩ : ∃ C, cmp A (wd (fun j => ((X.getD (64 * K + j) 0).toNat : Int)) (X.length - 64 * K)) X.length true = C := ⟨_, rfl⟩
  have hXl : X.length = 64 + d.size := by rw [← hX]; simp [hds, hpl]
  have hAl : A.length = 8 := by rw [← hA, ab_len]; rfl
  have hdg : dig (k.size : Int) X = ⟨(outB C 8).toArray⟩ := by simp only [dig, hK, hA, hC]
  have hS := ac_startK k (k.size : Int) rfl (by omega) _ rfl
  have hT := ac_takeB (iv0 (k.size : Int)) 3144134277 1013904242 2773480762 1359893119 2600822924 528734635 1541459225 0 d (pad k.data.toList) 0 64 (by simp [hpl]) X (by rw [← hX]; first | (rw [List.drop_zero, List.take_of_length_le (by rw [hpl]; exact Nat.le_refl _)]; done) | simp [hpl]) (by omega) (by omega) (by omega) K hK.symm
  rw [show [iv0 (k.size : Int), 3144134277, 1013904242, 2773480762, 1359893119, 2600822924, 528734635, 1541459225] = ivk (k.size : Int) from rfl, hA] at hT
  have hF := ac_sum1 (A.getD 0 0) (A.getD 1 0) (A.getD 2 0) (A.getD 3 0) (A.getD 4 0) (A.getD 5 0) (A.getD 6 0) (A.getD 7 0) (0 + 64 * (K : Int)) X (X.length - 64 * K) (64 * K) (by omega) (by omega) (by omega) (by omega) C (by rw [list8_eq hAl, ← hC]; congr 1; omega)
  try simp only [hX]
  rw [hdg]
  refine acalls_pure Try.func11 rfl rfl rfl ?_
  repeat' first
    | refine st ?_
    | refine stM [] hS ?_
    | refine stM [1, 0] hT ?_
    | refine stR [2] hF ?_
    | refine sdR [2] hF ?_
    | refine stm ?_
    | refine run_want rfl rfl ?_
    | refine run_unwant rfl rfl ?_
    | refine run_undef rfl rfl ?_
    | refine run_guard1t rfl rfl (by omega) ?_
    | refine run_guard1f rfl rfl (by omega) ?_
    | refine run_guard0t rfl rfl (by omega) ?_
    | refine run_guard0f rfl rfl (by omega) ?_
    | refine run_guard1 rfl rfl (fun h1 => ?_) (fun h1 => ?_)
    | refine run_guard0 rfl rfl (fun h1 => ?_) (fun h1 => ?_)
    | refine run_guard rfl rfl (fun h1 => ?_) (fun h1 => ?_)
    | refine run_nil ?_
    | refine aw_seq ?_
    | refine aw_region (by kernel_rfl) (Nat.le_of_ble_eq_true rfl) ?_
    | refine aw_block ?_
    | refine aw_cond_t rfl ?_
    | refine aw_cond_f rfl ?_
    | refine aw_cond_tp rfl (by omega) ?_
    | refine aw_cond_fp rfl (by omega) ?_
    | refine aw_cond1 rfl (fun h1 => ?_) (fun h1 => ?_)
    | refine aw_cond rfl (fun h1 => ?_) (fun h1 => ?_)
    | refine aw_skip ?_
    | refine aw_exit ?_
    | refine aw_ret ?_
    | refine pp_ret ?_
    | refine pp_normal ?_
  rfl
theorem ac_Keyed (k d : ByteArray) (hk : k.size ≤ 32) (h : d.size ≤ 1048000) : ACalls Try.prog 11 [.string k, .string d] [] (.tuple #[.string (dig (k.size : Int) (kx k.data.toList d.data.toList)), .int .i64 0]) [] := by
  rcases Nat.eq_zero_or_pos k.size with h0 | h0
  · exact ac_Keyed0 k d h0 h
  · exact ac_KeyedK k d ⟨h0, hk⟩ h
theorem ac_KeyedBig (k d : ByteArray) (hk : 32 < k.size) : ACalls Try.prog 11 [.string k, .string d] [] (.tuple #[.string ⟨#[]⟩, .int .i64 1]) [] := by
  refine acalls_pure Try.func11 rfl rfl rfl ?_
  repeat' first
    | refine st ?_
    | refine stm ?_
    | refine run_want rfl rfl ?_
    | refine run_unwant rfl rfl ?_
    | refine run_undef rfl rfl ?_
    | refine run_guard1t rfl rfl (by omega) ?_
    | refine run_guard1f rfl rfl (by omega) ?_
    | refine run_guard0t rfl rfl (by omega) ?_
    | refine run_guard0f rfl rfl (by omega) ?_
    | refine run_guard1 rfl rfl (fun h1 => ?_) (fun h1 => ?_)
    | refine run_guard0 rfl rfl (fun h1 => ?_) (fun h1 => ?_)
    | refine run_guard rfl rfl (fun h1 => ?_) (fun h1 => ?_)
    | refine run_nil ?_
    | refine aw_seq ?_
    | refine aw_region (by kernel_rfl) (Nat.le_of_ble_eq_true rfl) ?_
    | refine aw_block ?_
    | refine aw_cond_t rfl ?_
    | refine aw_cond_f rfl ?_
    | refine aw_cond_tp rfl (by omega) ?_
    | refine aw_cond_fp rfl (by omega) ?_
    | refine aw_cond1 rfl (fun h1 => ?_) (fun h1 => ?_)
    | refine aw_cond rfl (fun h1 => ?_) (fun h1 => ?_)
    | refine aw_skip ?_
    | refine aw_exit ?_
    | refine aw_ret ?_
    | refine pp_ret ?_
    | refine pp_normal ?_
  rfl
end Go.Proofs.Ytnicgkhffingmaa
