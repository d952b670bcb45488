/- Digest: the reference's digests, with a key and without. -/
import Derived.Test.YtclaiphadaeinaaD9
set_option linter.unusedVariables false
set_option linter.unusedSimpArgs false
namespace Go.Proofs.Ytclaiphadaeinaa
open Go Av
set_option maxRecDepth 20000
theorem app_list (l : List UInt8) (d : ByteArray) : ((⟨l.toArray⟩ : ByteArray) ++ d).data.toList = l ++ d.data.toList := by
  rw [ByteArray.data_append, Array.toList_append]
theorem app_size (l : List UInt8) (d : ByteArray) : ((⟨l.toArray⟩ : ByteArray) ++ d).size = l.length + d.size := by
  rw [ByteArray.size_append]; rfl
theorem ac_rSum (d : ByteArray) (h : d.size ≤ 1048576) : ACalls Try.prog 13 [.string d] [] (.string (dig 0 d.data.toList)) [] := by
  have HR := ac_rsum 0 (by omega) d h
  refine acalls_pure Try.func13 rfl rfl rfl ?_
  repeat' first
    | refine st ?_
    | refine st_call (HR) ?_
    | refine stm ?_
    | refine run_want rfl rfl ?_
    | refine run_unwant rfl rfl ?_
    | refine run_guard1t rfl rfl (by omega) ?_
    | refine run_guard1f rfl rfl (by omega) ?_
    | refine run_guard0t rfl rfl (by omega) ?_
    | refine run_guard0f rfl rfl (by omega) ?_
    | refine run_guard1 rfl rfl (fun h1 => ?_) (fun h1 => ?_)
    | refine run_guard0 rfl rfl (fun h1 => ?_) (fun h1 => ?_)
    | refine run_guard rfl rfl (fun h1 => ?_) (fun h1 => ?_)
    | refine run_nil ?_
    | refine aw_seq ?_
    | refine aw_region (by kernel_rfl) (Nat.le_of_ble_eq_true rfl) ?_
    | refine aw_block ?_
    | refine aw_cond_t rfl ?_
    | refine aw_cond_f rfl ?_
    | refine aw_cond_tp rfl (by omega) ?_
    | refine aw_cond_fp rfl (by omega) ?_
    | refine aw_cond1 rfl (fun h1 => ?_) (fun h1 => ?_)
    | refine aw_cond rfl (fun h1 => ?_) (fun h1 => ?_)
    | refine aw_skip ?_
    | refine aw_exit ?_
    | refine aw_ret ?_
    | refine pp_ret ?_
    | refine pp_normal ?_
  rfl
theorem ac_rKeyed (k d : ByteArray) (hk : k.size ≤ 32) (h : d.size ≤ 1048000) : ACalls Try.prog 15 [.string k, .string d] [] (.tuple #[.string (dig (k.size : Int) (kx k.data.toList d.data.toList)), .int .i64 0]) [] := by
  have hks : k.data.toList.length = k.size := Array.length_toList (xs := k.data)
  by_cases h0 : k = ⟨#[]⟩
  · subst h0
    have HR := ac_rSum d (by omega)
    rw [show kx (ByteArray.mk #[]).data.toList d.data.toList = d.data.toList from rfl, show (((ByteArray.mk #[]).size : Nat) : Int) = 0 from rfl]
    refine acalls_pure Try.func15 rfl rfl rfl ?_
    repeat' first
      | refine st ?_
      | refine st_call (HR) ?_
      | refine stm ?_
      | refine run_want rfl rfl ?_
      | refine run_unwant rfl rfl ?_
      | refine run_guard1t rfl rfl (by omega) ?_
      | refine run_guard1f rfl rfl (by omega) ?_
      | refine run_guard0t rfl rfl (by omega) ?_
      | refine run_guard0f rfl rfl (by omega) ?_
      | refine run_guard1 rfl rfl (fun h1 => ?_) (fun h1 => ?_)
      | refine run_guard0 rfl rfl (fun h1 => ?_) (fun h1 => ?_)
      | refine run_guard rfl rfl (fun h1 => ?_) (fun h1 => ?_)
      | refine run_nil ?_
      | refine aw_seq ?_
      | refine aw_region (by kernel_rfl) (Nat.le_of_ble_eq_true rfl) ?_
      | refine aw_block ?_
      | refine aw_cond_t rfl ?_
      | refine aw_cond_f rfl ?_
      | refine aw_cond_tp rfl (by omega) ?_
      | refine aw_cond_fp rfl (by omega) ?_
      | refine aw_cond1 rfl (fun h1 => ?_) (fun h1 => ?_)
      | refine aw_cond rfl (fun h1 => ?_) (fun h1 => ?_)
      | refine aw_skip ?_
      | refine aw_exit ?_
      | refine aw_ret ?_
      | refine pp_ret ?_
      | refine pp_normal ?_
    all_goals first | rfl | exact absurd rfl h1
  · have hk0 : 0 < k.size := Nat.pos_of_ne_zero fun h => h0 (bs0.2 h)
    have hne : k.data.toList ≠ [] := fun h => by rw [h] at hks; simp at hks; omega
    have hpl : (pad k.data.toList).length = 64 := pad_len _ (by omega)
    rw [kx, if_neg hne]
    have HR := ac_rsum (k.size : Int) (by omega) (⟨(pad k.data.toList).toArray⟩ ++ d) (by rw [app_size, hpl]; omega)
    rw [app_list] at HR
    have hcp : (List.replicate 64 (Value.int .u8 0)).take 0 ++ (k.data.toList.map u8v).take ((min k.size 64) * 1) ++ (List.replicate 64 (Value.int .u8 0)).drop (0 + (min k.size 64) * 1) = (pad k.data.toList).map u8v := by
      rw [Nat.min_eq_left (by omega), Nat.mul_one, Nat.zero_add, List.take_zero, List.nil_append, List.take_of_length_le (by simp), List.drop_replicate, pad, List.map_append, List.map_replicate, hks]
      rfl
    refine acalls_pure Try.func15 rfl rfl rfl ?_
    repeat' first
      | refine run_step (ok_copy (cs := (pad k.data.toList).map u8v) rfl rfl rfl (Src.str rfl Ty.eq rfl rfl) (by omega) (by simp; omega) hcp (by (repeat constructor))) (Nat.le_of_ble_eq_true rfl) ?_
      | refine st (h := ok_bytes_str (l := pad k.data.toList) rfl rfl (by simp [hpl]) (take_full (by simp [hpl]))) ?_
      | refine st (h := ok_str_add rfl rfl (by have := hpl; show (pad k.data.toList).length + d.size ≤ _; omega)) ?_
      | refine st ?_
      | refine st_call (HR) ?_
      | refine stm ?_
      | refine run_want rfl rfl ?_
      | refine run_unwant rfl rfl ?_
      | refine run_guard1t rfl rfl (by omega) ?_
      | refine run_guard1f rfl rfl (by omega) ?_
      | refine run_guard0t rfl rfl (by omega) ?_
      | refine run_guard0f rfl rfl (by omega) ?_
      | refine run_guard1 rfl rfl (fun h1 => ?_) (fun h1 => ?_)
      | refine run_guard0 rfl rfl (fun h1 => ?_) (fun h1 => ?_)
      | refine run_guard rfl rfl (fun h1 => ?_) (fun h1 => ?_)
      | refine run_nil ?_
      | refine aw_seq ?_
      | refine aw_region (by kernel_rfl) (Nat.le_of_ble_eq_true rfl) ?_
      | refine aw_block ?_
      | refine aw_cond_t rfl ?_
      | refine aw_cond_f rfl ?_
      | refine aw_cond_tp rfl (by omega) ?_
      | refine aw_cond_fp rfl (by omega) ?_
      | refine aw_cond1 rfl (fun h1 => ?_) (fun h1 => ?_)
      | refine aw_cond rfl (fun h1 => ?_) (fun h1 => ?_)
      | refine aw_skip ?_
      | refine aw_exit ?_
      | refine aw_ret ?_
      | refine pp_ret ?_
      | refine pp_normal ?_
    all_goals first | rfl | exact absurd h1 h0
theorem ac_rKeyedBig (k d : ByteArray) (hk : 32 < k.size) : ACalls Try.prog 15 [.string k, .string d] [] (.tuple #[.string ⟨#[]⟩, .int .i64 1]) [] := by
  refine acalls_pure Try.func15 rfl rfl rfl ?_
  repeat' first
    | refine st ?_
    | refine stm ?_
    | refine run_want rfl rfl ?_
    | refine run_unwant rfl rfl ?_
    | refine run_guard1t rfl rfl (by omega) ?_
    | refine run_guard1f rfl rfl (by omega) ?_
    | refine run_guard0t rfl rfl (by omega) ?_
    | refine run_guard0f rfl rfl (by omega) ?_
    | refine run_guard1 rfl rfl (fun h1 => ?_) (fun h1 => ?_)
    | refine run_guard0 rfl rfl (fun h1 => ?_) (fun h1 => ?_)
    | refine run_guard rfl rfl (fun h1 => ?_) (fun h1 => ?_)
    | refine run_nil ?_
    | refine aw_seq ?_
    | refine aw_region (by kernel_rfl) (Nat.le_of_ble_eq_true rfl) ?_
    | refine aw_block ?_
    | refine aw_cond_t rfl ?_
    | refine aw_cond_f rfl ?_
    | refine aw_cond_tp rfl (by omega) ?_
    | refine aw_cond_fp rfl (by omega) ?_
    | refine aw_cond1 rfl (fun h1 => ?_) (fun h1 => ?_)
    | refine aw_cond rfl (fun h1 => ?_) (fun h1 => ?_)
    | refine aw_skip ?_
    | refine aw_exit ?_
    | refine aw_ret ?_
    | refine pp_ret ?_
    | refine pp_normal ?_
  rfl
end Go.Proofs.Ytclaiphadaeinaa
