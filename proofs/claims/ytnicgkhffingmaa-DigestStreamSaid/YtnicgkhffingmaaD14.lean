/- Digest: the chapter's example. -/
import Derived.Test.YtnicgkhffingmaaD10
import Derived.Test.YtnicgkhffingmaaD11
import Derived.Test.YtnicgkhffingmaaD13
import Derived.Test.YtnicgkhffingmaaVG
import Derived.Test.YtnicgkhffingmaaJ
set_option linter.unusedVariables false
set_option linter.unusedSimpArgs false
namespace Go.Proofs.Ytnicgkhffingmaa
open Go Av
set_option maxRecDepth 100000
def S0 : ByteArray := ⟨#[105, 33, 122, 48, 121, 144, 128, 148, 225, 17, 33, 208, 66, 53, 74, 124, 31, 85, 182, 72, 44, 161, 165, 30, 27, 37, 13, 253, 30, 208, 238, 249]⟩
def S1 : ByteArray := ⟨#[80, 140, 94, 140, 50, 124, 20, 226, 225, 167, 43, 163, 78, 235, 69, 47, 55, 69, 139, 32, 158, 214, 58, 41, 77, 153, 155, 76, 134, 103, 89, 130]⟩
def T0 : ByteArray := ⟨#[54, 57, 50, 49, 55, 97, 51, 48, 55, 57, 57, 48, 56, 48, 57, 52, 101, 49, 49, 49, 50, 49, 100, 48, 52, 50, 51, 53, 52, 97, 55, 99, 49, 102, 53, 53, 98, 54, 52, 56, 50, 99, 97, 49, 97, 53, 49, 101, 49, 98, 50, 53, 48, 100, 102, 100, 49, 101, 100, 48, 101, 101, 102, 57]⟩
def T1 : ByteArray := ⟨#[53, 48, 56, 99, 53, 101, 56, 99, 51, 50, 55, 99, 49, 52, 101, 50, 101, 49, 97, 55, 50, 98, 97, 51, 52, 101, 101, 98, 52, 53, 50, 102, 51, 55, 52, 53, 56, 98, 50, 48, 57, 101, 100, 54, 51, 97, 50, 57, 52, 100, 57, 57, 57, 98, 52, 99, 56, 54, 54, 55, 53, 57, 56, 50]⟩
theorem dig0 : dig 0 [] = S0 := by decide +kernel
theorem dig1 : dig 0 [97, 98, 99] = S1 := by decide +kernel
theorem hex0 : hexL S0 32 = [54, 57, 50, 49, 55, 97, 51, 48, 55, 57, 57, 48, 56, 48, 57, 52, 101, 49, 49, 49, 50, 49, 100, 48, 52, 50, 51, 53, 52, 97, 55, 99, 49, 102, 53, 53, 98, 54, 52, 56, 50, 99, 97, 49, 97, 53, 49, 101, 49, 98, 50, 53, 48, 100, 102, 100, 49, 101, 100, 48, 101, 101, 102, 57] := by decide +kernel
theorem hex1 : hexL S1 32 = [53, 48, 56, 99, 53, 101, 56, 99, 51, 50, 55, 99, 49, 52, 101, 50, 101, 49, 97, 55, 50, 98, 97, 51, 52, 101, 101, 98, 52, 53, 50, 102, 51, 55, 52, 53, 56, 98, 50, 48, 57, 101, 100, 54, 51, 97, 50, 57, 52, 100, 57, 57, 57, 98, 52, 99, 56, 54, 54, 55, 53, 57, 56, 50] := by decide +kernel
theorem prs1 : (prI T1 64).map (Value.int .u8) = ([80, 140, 94, 140, 50, 124, 20, 226, 225, 167, 43, 163, 78, 235, 69, 47, 55, 69, 139, 32, 158, 214, 58, 41, 77, 153, 155, 76, 134, 103, 89, 130] : List UInt8).map u8v := by
  have : prI T1 64 = ([80, 140, 94, 140, 50, 124, 20, 226, 225, 167, 43, 163, 78, 235, 69, 47, 55, 69, 139, 32, 158, 214, 58, 41, 77, 153, 155, 76, 134, 103, 89, 130] : List UInt8).map fun b => (b.toNat : Int) := by decide +kernel
  rw [this, List.map_map]
  rfl
theorem ok1 : ∀ j, j < 64 → okc (byteAt T1 j) := by decide +kernel
theorem mix1 : mix 1 0 0 0 0 0 = [17, 539099650, 285278464, 285212928] := by decide +kernel
set_option maxHeartbeats 4000000 in
theorem ac_awake : ACalls Try.prog 4 [] [] (.bool true) [] := by
  have h1 := ac_Sum ⟨#[]⟩ (by decide)
  rw [show (ByteArray.mk #[]).data.toList = [] from rfl, dig0] at h1
  have h2 := ac_Hex S0 rfl _ hex0
  have h3 := ac_Sum ⟨#[97, 98, 99]⟩ (by decide)
  rw [show (ByteArray.mk #[97, 98, 99]).data.toList = [97, 98, 99] from rfl, dig1] at h3
  have h4 := ac_Hex S1 rfl _ hex1
  have h5 := ac_ParseOK T1 rfl ok1 _ prs1
  have h6 := ac_Keyed ⟨#[]⟩ ⟨#[97, 98, 99]⟩ (by decide) (by decide)
  rw [show (((ByteArray.mk #[]).size : Nat) : Int) = 0 from rfl, show kx (ByteArray.mk #[]).data.toList (ByteArray.mk #[97, 98, 99]).data.toList = [97, 98, 99] from rfl, dig1] at h6
  obtain ⟨L', o', n', t', C', c1, c2, c3, c4, c5, h7⟩ := ac_Write 0 [] [97, 98, 99] [] 0 0 0 (iv0 0) 3144134277 1013904242 2773480762 1359893119 2600822924 528734635 1541459225 [⟨#[97]⟩, ⟨#[]⟩, ⟨#[98, 99]⟩] 0 3 rfl rfl rfl (by decide) rfl (by decide) rfl (by decide) rfl (by decide)
  have hcl : C'.length = 8 := by rw [← c1, chn_len]
  have h8 := ac_hsum 3 [97, 98, 99] L' o' n' t' (C'.getD 0 0) (C'.getD 1 0) (C'.getD 2 0) (C'.getD 3 0) (C'.getD 4 0) (C'.getD 5 0) (C'.getD 6 0) (C'.getD 7 0) (by rw [c1, list8_eq hcl]) c2 c3 c4 c5 (by decide)
  rw [dig1] at h8
  have h9 := aw_mix 1 0 0 0 0 0
  rw [mix1] at h9
  have hN := ac_New
  refine acalls_pure Try.func4 rfl rfl rfl ?_
  repeat' first
    | refine st ?_
    | refine st_call (h1) ?_
    | refine st_call (h2) ?_
    | refine st_call (h3) ?_
    | refine st_call (h4) ?_
    | refine st_call (h5) ?_
    | refine st_call (h6) ?_
    | refine st_call (h9) ?_
    | refine stMW [] hN ?_
    | refine stMW [0, 1, 2] h7 ?_
    | refine sdRW [0, 3] h8 ?_
    | refine stRW [0, 3] h8 ?_
    | refine sd (h := ok_arr rfl rfl (by (repeat constructor)) (by (repeat constructor)) (by rfl) (by rfl) (by kernel_rfl) (.inl rfl)) ?_
    | refine st (h := ok_arr rfl rfl (by (repeat constructor)) (by (repeat constructor)) (by rfl) (by rfl) (by kernel_rfl) (.inl rfl)) ?_
    | refine stm ?_
    | refine run_want rfl rfl ?_
    | refine run_unwant rfl rfl ?_
    | refine run_undef rfl rfl ?_
    | refine run_guard1t rfl rfl (by omega) ?_
    | refine run_guard1f rfl rfl (by omega) ?_
    | refine run_guard0t rfl rfl (by omega) ?_
    | refine run_guard0f rfl rfl (by omega) ?_
    | refine run_guard1 rfl rfl (fun h1 => ?_) (fun h1 => ?_)
    | refine run_guard0 rfl rfl (fun h1 => ?_) (fun h1 => ?_)
    | refine run_guard rfl rfl (fun h1 => ?_) (fun h1 => ?_)
    | refine run_nil ?_
    | refine aw_seq ?_
    | refine aw_region (by kernel_rfl) (Nat.le_of_ble_eq_true rfl) ?_
    | refine aw_block ?_
    | refine aw_cond_t rfl ?_
    | refine aw_cond_f rfl ?_
    | refine aw_cond_tp rfl (by omega) ?_
    | refine aw_cond_fp rfl (by omega) ?_
    | refine aw_cond1 rfl (fun h1 => ?_) (fun h1 => ?_)
    | refine aw_cond rfl (fun h1 => ?_) (fun h1 => ?_)
    | refine aw_skip ?_
    | refine aw_exit ?_
    | refine aw_ret ?_
    | refine pp_ret ?_
    | refine pp_normal ?_
  rfl
end Go.Proofs.Ytnicgkhffingmaa
