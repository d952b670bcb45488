/- Beacons: read. -/
import Derived.Test.YtfabgdignlfihaaM4
import Derived.Test.YtfabgdignlfihaaH7
import Derived.Test.YtfabgdignlfihaaH8
set_option linter.unusedVariables false
set_option linter.unusedSimpArgs false
namespace Go.Proofs.Ytfabgdignlfihaa
open Go Av
set_option maxRecDepth 20000
/-- What Read returns. -/
def readO (b : Bool) (dt : ByteArray) : OfT × Int := if b = true then decO dt else (of0, 1)
set_option maxHeartbeats 4000000 in
theorem ac_read (kd sr tg li sq fl nu er sx rk ep : Int) (dt : ByteArray) (hd : dt.size ≤ 1000) (i : Bool) (hi : isC kd sr tg li sq fl nu er sx rk ep = i) (m : OfT) (x : Int) (n : Nat) (hres : readO i dt = (m, x)) (hn : m.2.2.2.2.2.2.length = n) : ACalls Try.prog 30 [.agg #[.int .i64 kd, .int .i64 sr, .int .i64 tg, .int .i64 li, .int .i64 sq, .int .i64 fl, .int .i64 nu, .int .i64 er, .int .i64 sx, .int .i64 rk, .int .i64 ep, .string dt]] [] (.tuple #[.agg #[.int .i64 m.1, .bool m.2.1, .string m.2.2.1, .int .i64 m.2.2.2.1, .int .i64 m.2.2.2.2.1, .int .i64 m.2.2.2.2.2.1, .slice (some ⟨0, 0, none⟩) n n], .int .i64 x]) [some ⟨List.map (Value.int .i64) m.2.2.2.2.2.2, true, 1⟩] := by
  have H1 := ac_is kd sr tg li sq fl nu er sx rk ep dt i hi
  clear hi
  cases i
  · obtain ⟨rfl, rfl⟩ := Prod.mk.inj hres.symm
    obtain rfl : n = 0 := hn.symm
    clear hres hn
    refine acalls_of_aw Try.func30 rfl rfl ?_
    refine aw_ghost 1 rfl ?_
    repeat' first
      | refine st (h := ok_not_dec2 rfl) ?_
      | refine st ?_
      | refine st_call (H1) ?_
      | refine sd_call (H1) ?_
      | refine stm ?_
      | refine run_want rfl rfl ?_
      | refine run_unwant rfl rfl ?_
      | refine run_undef rfl rfl ?_
      | refine run_guard1t rfl rfl (by omega) ?_
      | refine run_guard1f rfl rfl (by omega) ?_
      | refine run_guard0t rfl rfl (by omega) ?_
      | refine run_guard0f rfl rfl (by omega) ?_
      | refine run_guard1 rfl rfl (fun h1 => ?_) (fun h1 => ?_)
      | refine run_guard0 rfl rfl (fun h1 => ?_) (fun h1 => ?_)
      | refine run_guard rfl rfl (fun h1 => ?_) (fun h1 => ?_)
      | refine run_nil ?_
      | refine aw_seq ?_
      | refine aw_region (by kernel_rfl) (Nat.le_of_ble_eq_true rfl) ?_
      | refine aw_block ?_
      | refine aw_cond_t rfl ?_
      | refine aw_cond_f rfl ?_
      | refine aw_cond_tp rfl (by omega) ?_
      | refine aw_cond_fp rfl (by omega) ?_
      | refine aw_cond1 rfl (fun h1 => ?_) (fun h1 => ?_)
      | refine aw_cond rfl (fun h1 => ?_) (fun h1 => ?_)
      | refine aw_skip ?_
      | refine aw_exit ?_
      | refine aw_ret ?_
      | refine pp_ret ?_
      | refine pp_normal ?_
    all_goals first | (refine pmw_ret _ (renumA [0]) ?_; exact Wk.tupleL (.cons (Wk.aggL (.cons (.refl _) (.cons (.refl _) (.cons (.refl _) (.cons (.refl _) (.cons (.refl _) (.cons (.refl _) (.cons .nil .nil)))))))) (.cons (.refl _) .nil))) | (exfalso; omega) | (exfalso; simp_all; done)
  · have H2 := ac_odecode dt hd m x n hres hn
    clear hres
    refine acalls_of_aw Try.func30 rfl rfl ?_
    repeat' first
      | refine st (h := ok_not_dec2 rfl) ?_
      | refine st ?_
      | refine st_call (H1) ?_
      | refine sd_call (H1) ?_
      | refine stMW [] H2 ?_
      | refine stm ?_
      | refine run_want rfl rfl ?_
      | refine run_unwant rfl rfl ?_
      | refine run_undef rfl rfl ?_
      | refine run_guard1t rfl rfl (by omega) ?_
      | refine run_guard1f rfl rfl (by omega) ?_
      | refine run_guard0t rfl rfl (by omega) ?_
      | refine run_guard0f rfl rfl (by omega) ?_
      | refine run_guard1 rfl rfl (fun h1 => ?_) (fun h1 => ?_)
      | refine run_guard0 rfl rfl (fun h1 => ?_) (fun h1 => ?_)
      | refine run_guard rfl rfl (fun h1 => ?_) (fun h1 => ?_)
      | refine run_nil ?_
      | refine aw_seq ?_
      | refine aw_region (by kernel_rfl) (Nat.le_of_ble_eq_true rfl) ?_
      | refine aw_block ?_
      | refine aw_cond_t rfl ?_
      | refine aw_cond_f rfl ?_
      | refine aw_cond_tp rfl (by omega) ?_
      | refine aw_cond_fp rfl (by omega) ?_
      | refine aw_cond1 rfl (fun h1 => ?_) (fun h1 => ?_)
      | refine aw_cond rfl (fun h1 => ?_) (fun h1 => ?_)
      | refine aw_skip ?_
      | refine aw_exit ?_
      | refine aw_ret ?_
      | refine pp_ret ?_
      | refine pp_normal ?_
    all_goals first | exact pm_ret _ (renumD [2]) rfl | (exfalso; omega) | (exfalso; simp_all; done)
set_option maxHeartbeats 4000000 in
theorem ac_rread (kd sr tg li sq fl nu er sx rk ep : Int) (dt : ByteArray) (hd : dt.size ≤ 1000) (i : Bool) (hi : isC kd sr tg li sq fl nu er sx rk ep = i) (m : OfT) (x : Int) (n : Nat) (hres : readO i dt = (m, x)) (hn : m.2.2.2.2.2.2.length = n) : ACalls Try.prog 34 [.agg #[.int .i64 kd, .int .i64 sr, .int .i64 tg, .int .i64 li, .int .i64 sq, .int .i64 fl, .int .i64 nu, .int .i64 er, .int .i64 sx, .int .i64 rk, .int .i64 ep, .string dt]] [] (.tuple #[.agg #[.int .i64 m.1, .bool m.2.1, .string m.2.2.1, .int .i64 m.2.2.2.1, .int .i64 m.2.2.2.2.1, .int .i64 m.2.2.2.2.2.1, .slice (some ⟨0, 0, none⟩) n n], .int .i64 x]) [some ⟨List.map (Value.int .i64) m.2.2.2.2.2.2, true, 1⟩] := by
  have H1 := ac_ris kd sr tg li sq fl nu er sx rk ep dt i hi
  clear hi
  cases i
  · obtain ⟨rfl, rfl⟩ := Prod.mk.inj hres.symm
    obtain rfl : n = 0 := hn.symm
    clear hres hn
    refine acalls_of_aw Try.func34 rfl rfl ?_
    refine aw_ghost 1 rfl ?_
    repeat' first
      | refine st (h := ok_not_dec2 rfl) ?_
      | refine st ?_
      | refine st_call (H1) ?_
      | refine sd_call (H1) ?_
      | refine stm ?_
      | refine run_want rfl rfl ?_
      | refine run_unwant rfl rfl ?_
      | refine run_undef rfl rfl ?_
      | refine run_guard1t rfl rfl (by omega) ?_
      | refine run_guard1f rfl rfl (by omega) ?_
      | refine run_guard0t rfl rfl (by omega) ?_
      | refine run_guard0f rfl rfl (by omega) ?_
      | refine run_guard1 rfl rfl (fun h1 => ?_) (fun h1 => ?_)
      | refine run_guard0 rfl rfl (fun h1 => ?_) (fun h1 => ?_)
      | refine run_guard rfl rfl (fun h1 => ?_) (fun h1 => ?_)
      | refine run_nil ?_
      | refine aw_seq ?_
      | refine aw_region (by kernel_rfl) (Nat.le_of_ble_eq_true rfl) ?_
      | refine aw_block ?_
      | refine aw_cond_t rfl ?_
      | refine aw_cond_f rfl ?_
      | refine aw_cond_tp rfl (by omega) ?_
      | refine aw_cond_fp rfl (by omega) ?_
      | refine aw_cond1 rfl (fun h1 => ?_) (fun h1 => ?_)
      | refine aw_cond rfl (fun h1 => ?_) (fun h1 => ?_)
      | refine aw_skip ?_
      | refine aw_exit ?_
      | refine aw_ret ?_
      | refine pp_ret ?_
      | refine pp_normal ?_
    all_goals first | (refine pmw_ret _ (renumA [0]) ?_; exact Wk.tupleL (.cons (Wk.aggL (.cons (.refl _) (.cons (.refl _) (.cons (.refl _) (.cons (.refl _) (.cons (.refl _) (.cons (.refl _) (.cons .nil .nil)))))))) (.cons (.refl _) .nil))) | (exfalso; omega) | (exfalso; simp_all; done)
  · have H2 := ac_rodecode dt hd m x n hres hn
    clear hres
    refine acalls_of_aw Try.func34 rfl rfl ?_
    repeat' first
      | refine st (h := ok_not_dec2 rfl) ?_
      | refine st ?_
      | refine st_call (H1) ?_
      | refine sd_call (H1) ?_
      | refine stMW [] H2 ?_
      | refine stm ?_
      | refine run_want rfl rfl ?_
      | refine run_unwant rfl rfl ?_
      | refine run_undef rfl rfl ?_
      | refine run_guard1t rfl rfl (by omega) ?_
      | refine run_guard1f rfl rfl (by omega) ?_
      | refine run_guard0t rfl rfl (by omega) ?_
      | refine run_guard0f rfl rfl (by omega) ?_
      | refine run_guard1 rfl rfl (fun h1 => ?_) (fun h1 => ?_)
      | refine run_guard0 rfl rfl (fun h1 => ?_) (fun h1 => ?_)
      | refine run_guard rfl rfl (fun h1 => ?_) (fun h1 => ?_)
      | refine run_nil ?_
      | refine aw_seq ?_
      | refine aw_region (by kernel_rfl) (Nat.le_of_ble_eq_true rfl) ?_
      | refine aw_block ?_
      | refine aw_cond_t rfl ?_
      | refine aw_cond_f rfl ?_
      | refine aw_cond_tp rfl (by omega) ?_
      | refine aw_cond_fp rfl (by omega) ?_
      | refine aw_cond1 rfl (fun h1 => ?_) (fun h1 => ?_)
      | refine aw_cond rfl (fun h1 => ?_) (fun h1 => ?_)
      | refine aw_skip ?_
      | refine aw_exit ?_
      | refine aw_ret ?_
      | refine pp_ret ?_
      | refine pp_normal ?_
    all_goals first | exact pm_ret _ (renumD [2]) rfl | (exfalso; omega) | (exfalso; simp_all; done)
end Go.Proofs.Ytfabgdignlfihaa
