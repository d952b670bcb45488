/- Beacons: made. -/
import Derived.Test.YtfabgdignlfihaaM2
import Derived.Test.YtfabgdignlfihaaM3
import Derived.Test.YtfabgdignlfihaaH5
set_option linter.unusedVariables false
set_option linter.unusedSimpArgs false
namespace Go.Proofs.Ytfabgdignlfihaa
open Go Av
set_option maxRecDepth 20000
theorem flat_ints (l : List Int) : (l.flatMap fun n => [Value.int .i64 n]) = List.map (Value.int .i64) l := by
  induction l with
  | nil => rfl
  | cons a l ih => rw [List.flatMap_cons, ih]; rfl
/-- A frame: kind, source, target, list, sequence, flow, number, error, slot, rank, epoch, data. -/
abbrev FrT := Int × Int × Int × Int × Int × Int × Int × Int × Int × Int × Int × ByteArray
def frV (m : FrT) : Value := .agg #[.int .i64 m.1, .int .i64 m.2.1, .int .i64 m.2.2.1, .int .i64 m.2.2.2.1, .int .i64 m.2.2.2.2.1, .int .i64 m.2.2.2.2.2.1, .int .i64 m.2.2.2.2.2.2.1, .int .i64 m.2.2.2.2.2.2.2.1, .int .i64 m.2.2.2.2.2.2.2.2.1, .int .i64 m.2.2.2.2.2.2.2.2.2.1, .int .i64 m.2.2.2.2.2.2.2.2.2.2.1, .string m.2.2.2.2.2.2.2.2.2.2.2]
def fr0 : FrT := (0, 0, 0, 0, 0, 0, 0, 0, 0, 0, 0, ⟨#[]⟩)
/-- What Make returns. -/
def mkF (nd epo rnk li sq sx : Int) (x : Int) (w : ByteArray) : FrT × Int := if x ≠ 0 then (fr0, x) else if 65535 ≤ rnk then (fr0, 12) else if okC nd (-1) li sq 0 0 0 sx rnk epo = true then ((3, nd, -1, li, sq, 0, 0, 0, sx, rnk, epo, w), 0) else (fr0, 1)
set_option maxHeartbeats 8000000 in
theorem ac_make (nd epo pa he rnk le : Int) (li sq sx : Int) (root : Int) (op : Bool) (run : ByteArray) (v f u : Int) (C : List Int) (n : Nat) (hn : C.length = n) (hb : n ≤ 9000000000000000000) (x : Int) (hx : chkO root run v f u C = x) (m : FrT) (y : Int) (hm : mkF nd epo rnk li sq sx x (pkB (ofB root op run v f u C)) = (m, y)) : ACalls Try.prog 32 [.agg #[.int .i64 nd, .int .i64 epo, .int .i64 pa, .int .i64 he, .int .i64 rnk, .int .i64 le], .int .i64 li, .int .i64 sq, .int .i64 sx, .agg #[.int .i64 root, .bool op, .string run, .int .i64 v, .int .i64 f, .int .i64 u, .slice (some ⟨0, 0, none⟩) n n]] [some ⟨List.map (Value.int .i64) C, false, 1⟩] (.tuple #[frV m, .int .i64 y]) [none] := by
  unfold mkF at hm
  by_cases hx0 : x = 0
  · subst hx0
    have H1 := ac_oencode0 root op run v f u C n hn hb hx
    rw [if_neg (by simp)] at hm
    generalize pkB (ofB root op run v f u C) = w at H1 hm
    by_cases hr : 65535 ≤ rnk
    · rw [if_pos hr] at hm
      obtain ⟨rfl, rfl⟩ := Prod.mk.inj hm.symm
      refine acalls_law Try.func32 rfl rfl rfl ?_
      repeat' first
        | refine st ?_
        | refine stRW [0] H1 ?_
        | refine sdRW [0] H1 ?_
        | refine st_call (H2) ?_
        | refine sd_call (H2) ?_
        | refine stm ?_
        | refine run_want rfl rfl ?_
        | refine run_unwant rfl rfl ?_
        | refine run_undef rfl rfl ?_
        | refine run_guard1t rfl rfl (by omega) ?_
        | refine run_guard1f rfl rfl (by omega) ?_
        | refine run_guard0t rfl rfl (by omega) ?_
        | refine run_guard0f rfl rfl (by omega) ?_
        | refine run_guard1 rfl rfl (fun h1 => ?_) (fun h1 => ?_)
        | refine run_guard0 rfl rfl (fun h1 => ?_) (fun h1 => ?_)
        | refine run_guard rfl rfl (fun h1 => ?_) (fun h1 => ?_)
        | refine run_nil ?_
        | refine aw_seq ?_
        | refine aw_region (by kernel_rfl) (Nat.le_of_ble_eq_true rfl) ?_
        | refine aw_block ?_
        | refine aw_cond_t rfl ?_
        | refine aw_cond_f rfl ?_
        | refine aw_cond_tp rfl (by omega) ?_
        | refine aw_cond_fp rfl (by omega) ?_
        | refine aw_cond1 rfl (fun h1 => ?_) (fun h1 => ?_)
        | refine aw_cond rfl (fun h1 => ?_) (fun h1 => ?_)
        | refine aw_skip ?_
        | refine aw_exit ?_
        | refine aw_ret ?_
        | refine pp_ret ?_
        | refine pp_normal ?_
      all_goals first
        | rfl
        | (exfalso; omega)
        | (simp [retOf]; done)
        | (exfalso; simp_all; done)
    · rw [if_neg hr] at hm
      obtain ⟨z, hz⟩ : ∃ z, okC nd (-1) li sq 0 0 0 sx rnk epo = z := ⟨_, rfl⟩
      have H2 := ac_fcheck nd (-1) li sq 0 0 0 sx rnk epo w z hz
      rw [hz] at hm
      cases z
      · rw [if_neg (by simp)] at hm
        obtain ⟨rfl, rfl⟩ := Prod.mk.inj hm.symm
        replace H2 : ACalls Try.prog 72 [.agg #[.int .i64 3, .int .i64 nd, .int .i64 (-1), .int .i64 li, .int .i64 sq, .int .i64 0, .int .i64 0, .int .i64 0, .int .i64 sx, .int .i64 rnk, .int .i64 epo, .string w]] [] (.int .i64 1) [] := H2
        refine acalls_law Try.func32 rfl rfl rfl ?_
        repeat' first
          | refine st ?_
          | refine stRW [0] H1 ?_
          | refine sdRW [0] H1 ?_
          | refine st_call (H2) ?_
          | refine sd_call (H2) ?_
          | refine stm ?_
          | refine run_want rfl rfl ?_
          | refine run_unwant rfl rfl ?_
          | refine run_undef rfl rfl ?_
          | refine run_guard1t rfl rfl (by omega) ?_
          | refine run_guard1f rfl rfl (by omega) ?_
          | refine run_guard0t rfl rfl (by omega) ?_
          | refine run_guard0f rfl rfl (by omega) ?_
          | refine run_guard1 rfl rfl (fun h1 => ?_) (fun h1 => ?_)
          | refine run_guard0 rfl rfl (fun h1 => ?_) (fun h1 => ?_)
          | refine run_guard rfl rfl (fun h1 => ?_) (fun h1 => ?_)
          | refine run_nil ?_
          | refine aw_seq ?_
          | refine aw_region (by kernel_rfl) (Nat.le_of_ble_eq_true rfl) ?_
          | refine aw_block ?_
          | refine aw_cond_t rfl ?_
          | refine aw_cond_f rfl ?_
          | refine aw_cond_tp rfl (by omega) ?_
          | refine aw_cond_fp rfl (by omega) ?_
          | refine aw_cond1 rfl (fun h1 => ?_) (fun h1 => ?_)
          | refine aw_cond rfl (fun h1 => ?_) (fun h1 => ?_)
          | refine aw_skip ?_
          | refine aw_exit ?_
          | refine aw_ret ?_
          | refine pp_ret ?_
          | refine pp_normal ?_
        all_goals first
          | rfl
          | (exfalso; omega)
          | (simp [retOf]; done)
          | (exfalso; simp_all; done)
      · rw [if_pos rfl] at hm
        obtain ⟨rfl, rfl⟩ := Prod.mk.inj hm.symm
        replace H2 : ACalls Try.prog 72 [.agg #[.int .i64 3, .int .i64 nd, .int .i64 (-1), .int .i64 li, .int .i64 sq, .int .i64 0, .int .i64 0, .int .i64 0, .int .i64 sx, .int .i64 rnk, .int .i64 epo, .string w]] [] (.int .i64 0) [] := H2
        refine acalls_law Try.func32 rfl rfl rfl ?_
        repeat' first
          | refine st ?_
          | refine stRW [0] H1 ?_
          | refine sdRW [0] H1 ?_
          | refine st_call (H2) ?_
          | refine sd_call (H2) ?_
          | refine stm ?_
          | refine run_want rfl rfl ?_
          | refine run_unwant rfl rfl ?_
          | refine run_undef rfl rfl ?_
          | refine run_guard1t rfl rfl (by omega) ?_
          | refine run_guard1f rfl rfl (by omega) ?_
          | refine run_guard0t rfl rfl (by omega) ?_
          | refine run_guard0f rfl rfl (by omega) ?_
          | refine run_guard1 rfl rfl (fun h1 => ?_) (fun h1 => ?_)
          | refine run_guard0 rfl rfl (fun h1 => ?_) (fun h1 => ?_)
          | refine run_guard rfl rfl (fun h1 => ?_) (fun h1 => ?_)
          | refine run_nil ?_
          | refine aw_seq ?_
          | refine aw_region (by kernel_rfl) (Nat.le_of_ble_eq_true rfl) ?_
          | refine aw_block ?_
          | refine aw_cond_t rfl ?_
          | refine aw_cond_f rfl ?_
          | refine aw_cond_tp rfl (by omega) ?_
          | refine aw_cond_fp rfl (by omega) ?_
          | refine aw_cond1 rfl (fun h1 => ?_) (fun h1 => ?_)
          | refine aw_cond rfl (fun h1 => ?_) (fun h1 => ?_)
          | refine aw_skip ?_
          | refine aw_exit ?_
          | refine aw_ret ?_
          | refine pp_ret ?_
          | refine pp_normal ?_
        all_goals first
          | rfl
          | (exfalso; omega)
          | (simp [retOf]; done)
          | (exfalso; simp_all; done)
  · have H1 := ac_oencodeE root op run v f u C n hn hb x hx hx0
    rw [if_pos hx0] at hm
    obtain ⟨rfl, rfl⟩ := Prod.mk.inj hm.symm
    refine acalls_law Try.func32 rfl rfl rfl ?_
    repeat' first
      | refine st ?_
      | refine stRW [0] H1 ?_
      | refine sdRW [0] H1 ?_
      | refine st_call (H2) ?_
      | refine sd_call (H2) ?_
      | refine stm ?_
      | refine run_want rfl rfl ?_
      | refine run_unwant rfl rfl ?_
      | refine run_undef rfl rfl ?_
      | refine run_guard1t rfl rfl (by omega) ?_
      | refine run_guard1f rfl rfl (by omega) ?_
      | refine run_guard0t rfl rfl (by omega) ?_
      | refine run_guard0f rfl rfl (by omega) ?_
      | refine run_guard1 rfl rfl (fun h1 => ?_) (fun h1 => ?_)
      | refine run_guard0 rfl rfl (fun h1 => ?_) (fun h1 => ?_)
      | refine run_guard rfl rfl (fun h1 => ?_) (fun h1 => ?_)
      | refine run_nil ?_
      | refine aw_seq ?_
      | refine aw_region (by kernel_rfl) (Nat.le_of_ble_eq_true rfl) ?_
      | refine aw_block ?_
      | refine aw_cond_t rfl ?_
      | refine aw_cond_f rfl ?_
      | refine aw_cond_tp rfl (by omega) ?_
      | refine aw_cond_fp rfl (by omega) ?_
      | refine aw_cond1 rfl (fun h1 => ?_) (fun h1 => ?_)
      | refine aw_cond rfl (fun h1 => ?_) (fun h1 => ?_)
      | refine aw_skip ?_
      | refine aw_exit ?_
      | refine aw_ret ?_
      | refine pp_ret ?_
      | refine pp_normal ?_
    all_goals first
      | rfl
      | (exfalso; omega)
      | (simp [retOf]; done)
      | (exfalso; simp_all; done)
set_option maxHeartbeats 8000000 in
theorem ac_rmake (nd epo pa he rnk le : Int) (li sq sx : Int) (root : Int) (op : Bool) (run : ByteArray) (v f u : Int) (C : List Int) (n : Nat) (hn : C.length = n) (hb : n ≤ 9000000000000000000) (x : Int) (hx : chkO root run v f u C = x) (m : FrT) (y : Int) (hm : mkF nd epo rnk li sq sx x (pkB (ofB root op run v f u C)) = (m, y)) : ACalls Try.prog 33 [.agg #[.int .i64 nd, .int .i64 epo, .int .i64 pa, .int .i64 he, .int .i64 rnk, .int .i64 le], .int .i64 li, .int .i64 sq, .int .i64 sx, .agg #[.int .i64 root, .bool op, .string run, .int .i64 v, .int .i64 f, .int .i64 u, .slice (some ⟨0, 0, none⟩) n n]] [some ⟨List.map (Value.int .i64) C, false, 1⟩] (.tuple #[frV m, .int .i64 y]) [none] := by
  unfold mkF at hm
  by_cases hx0 : x = 0
  · subst hx0
    have H1 := ac_roencode0 root op run v f u C n hn hb hx
    rw [if_neg (by simp)] at hm
    generalize pkB (ofB root op run v f u C) = w at H1 hm
    by_cases hr : 65535 ≤ rnk
    · rw [if_pos hr] at hm
      obtain ⟨rfl, rfl⟩ := Prod.mk.inj hm.symm
      refine acalls_law Try.func33 rfl rfl rfl ?_
      repeat' first
        | refine st ?_
        | refine stRW [0] H1 ?_
        | refine sdRW [0] H1 ?_
        | refine st_call (H2) ?_
        | refine sd_call (H2) ?_
        | refine stm ?_
        | refine run_want rfl rfl ?_
        | refine run_unwant rfl rfl ?_
        | refine run_undef rfl rfl ?_
        | refine run_guard1t rfl rfl (by omega) ?_
        | refine run_guard1f rfl rfl (by omega) ?_
        | refine run_guard0t rfl rfl (by omega) ?_
        | refine run_guard0f rfl rfl (by omega) ?_
        | refine run_guard1 rfl rfl (fun h1 => ?_) (fun h1 => ?_)
        | refine run_guard0 rfl rfl (fun h1 => ?_) (fun h1 => ?_)
        | refine run_guard rfl rfl (fun h1 => ?_) (fun h1 => ?_)
        | refine run_nil ?_
        | refine aw_seq ?_
        | refine aw_region (by kernel_rfl) (Nat.le_of_ble_eq_true rfl) ?_
        | refine aw_block ?_
        | refine aw_cond_t rfl ?_
        | refine aw_cond_f rfl ?_
        | refine aw_cond_tp rfl (by omega) ?_
        | refine aw_cond_fp rfl (by omega) ?_
        | refine aw_cond1 rfl (fun h1 => ?_) (fun h1 => ?_)
        | refine aw_cond rfl (fun h1 => ?_) (fun h1 => ?_)
        | refine aw_skip ?_
        | refine aw_exit ?_
        | refine aw_ret ?_
        | refine pp_ret ?_
        | refine pp_normal ?_
      all_goals first
        | rfl
        | (exfalso; omega)
        | (simp [retOf]; done)
        | (exfalso; simp_all; done)
    · rw [if_neg hr] at hm
      obtain ⟨z, hz⟩ : ∃ z, okC nd (-1) li sq 0 0 0 sx rnk epo = z := ⟨_, rfl⟩
      have H2 := ac_rfcheck nd (-1) li sq 0 0 0 sx rnk epo w z hz
      rw [hz] at hm
      cases z
      · rw [if_neg (by simp)] at hm
        obtain ⟨rfl, rfl⟩ := Prod.mk.inj hm.symm
        replace H2 : ACalls Try.prog 73 [.agg #[.int .i64 3, .int .i64 nd, .int .i64 (-1), .int .i64 li, .int .i64 sq, .int .i64 0, .int .i64 0, .int .i64 0, .int .i64 sx, .int .i64 rnk, .int .i64 epo, .string w]] [] (.int .i64 1) [] := H2
        refine acalls_law Try.func33 rfl rfl rfl ?_
        repeat' first
          | refine st ?_
          | refine stRW [0] H1 ?_
          | refine sdRW [0] H1 ?_
          | refine st_call (H2) ?_
          | refine sd_call (H2) ?_
          | refine stm ?_
          | refine run_want rfl rfl ?_
          | refine run_unwant rfl rfl ?_
          | refine run_undef rfl rfl ?_
          | refine run_guard1t rfl rfl (by omega) ?_
          | refine run_guard1f rfl rfl (by omega) ?_
          | refine run_guard0t rfl rfl (by omega) ?_
          | refine run_guard0f rfl rfl (by omega) ?_
          | refine run_guard1 rfl rfl (fun h1 => ?_) (fun h1 => ?_)
          | refine run_guard0 rfl rfl (fun h1 => ?_) (fun h1 => ?_)
          | refine run_guard rfl rfl (fun h1 => ?_) (fun h1 => ?_)
          | refine run_nil ?_
          | refine aw_seq ?_
          | refine aw_region (by kernel_rfl) (Nat.le_of_ble_eq_true rfl) ?_
          | refine aw_block ?_
          | refine aw_cond_t rfl ?_
          | refine aw_cond_f rfl ?_
          | refine aw_cond_tp rfl (by omega) ?_
          | refine aw_cond_fp rfl (by omega) ?_
          | refine aw_cond1 rfl (fun h1 => ?_) (fun h1 => ?_)
          | refine aw_cond rfl (fun h1 => ?_) (fun h1 => ?_)
          | refine aw_skip ?_
          | refine aw_exit ?_
          | refine aw_ret ?_
          | refine pp_ret ?_
          | refine pp_normal ?_
        all_goals first
          | rfl
          | (exfalso; omega)
          | (simp [retOf]; done)
          | (exfalso; simp_all; done)
      · rw [if_pos rfl] at hm
        obtain ⟨rfl, rfl⟩ := Prod.mk.inj hm.symm
        replace H2 : ACalls Try.prog 73 [.agg #[.int .i64 3, .int .i64 nd, .int .i64 (-1), .int .i64 li, .int .i64 sq, .int .i64 0, .int .i64 0, .int .i64 0, .int .i64 sx, .int .i64 rnk, .int .i64 epo, .string w]] [] (.int .i64 0) [] := H2
        refine acalls_law Try.func33 rfl rfl rfl ?_
        repeat' first
          | refine st ?_
          | refine stRW [0] H1 ?_
          | refine sdRW [0] H1 ?_
          | refine st_call (H2) ?_
          | refine sd_call (H2) ?_
          | refine stm ?_
          | refine run_want rfl rfl ?_
          | refine run_unwant rfl rfl ?_
          | refine run_undef rfl rfl ?_
          | refine run_guard1t rfl rfl (by omega) ?_
          | refine run_guard1f rfl rfl (by omega) ?_
          | refine run_guard0t rfl rfl (by omega) ?_
          | refine run_guard0f rfl rfl (by omega) ?_
          | refine run_guard1 rfl rfl (fun h1 => ?_) (fun h1 => ?_)
          | refine run_guard0 rfl rfl (fun h1 => ?_) (fun h1 => ?_)
          | refine run_guard rfl rfl (fun h1 => ?_) (fun h1 => ?_)
          | refine run_nil ?_
          | refine aw_seq ?_
          | refine aw_region (by kernel_rfl) (Nat.le_of_ble_eq_true rfl) ?_
          | refine aw_block ?_
          | refine aw_cond_t rfl ?_
          | refine aw_cond_f rfl ?_
          | refine aw_cond_tp rfl (by omega) ?_
          | refine aw_cond_fp rfl (by omega) ?_
          | refine aw_cond1 rfl (fun h1 => ?_) (fun h1 => ?_)
          | refine aw_cond rfl (fun h1 => ?_) (fun h1 => ?_)
          | refine aw_skip ?_
          | refine aw_exit ?_
          | refine aw_ret ?_
          | refine pp_ret ?_
          | refine pp_normal ?_
        all_goals first
          | rfl
          | (exfalso; omega)
          | (simp [retOf]; done)
          | (exfalso; simp_all; done)
  · have H1 := ac_roencodeE root op run v f u C n hn hb x hx hx0
    rw [if_pos hx0] at hm
    obtain ⟨rfl, rfl⟩ := Prod.mk.inj hm.symm
    refine acalls_law Try.func33 rfl rfl rfl ?_
    repeat' first
      | refine st ?_
      | refine stRW [0] H1 ?_
      | refine sdRW [0] H1 ?_
      | refine st_call (H2) ?_
      | refine sd_call (H2) ?_
      | refine stm ?_
      | refine run_want rfl rfl ?_
      | refine run_unwant rfl rfl ?_
      | refine run_undef rfl rfl ?_
      | refine run_guard1t rfl rfl (by omega) ?_
      | refine run_guard1f rfl rfl (by omega) ?_
      | refine run_guard0t rfl rfl (by omega) ?_
      | refine run_guard0f rfl rfl (by omega) ?_
      | refine run_guard1 rfl rfl (fun h1 => ?_) (fun h1 => ?_)
      | refine run_guard0 rfl rfl (fun h1 => ?_) (fun h1 => ?_)
      | refine run_guard rfl rfl (fun h1 => ?_) (fun h1 => ?_)
      | refine run_nil ?_
      | refine aw_seq ?_
      | refine aw_region (by kernel_rfl) (Nat.le_of_ble_eq_true rfl) ?_
      | refine aw_block ?_
      | refine aw_cond_t rfl ?_
      | refine aw_cond_f rfl ?_
      | refine aw_cond_tp rfl (by omega) ?_
      | refine aw_cond_fp rfl (by omega) ?_
      | refine aw_cond1 rfl (fun h1 => ?_) (fun h1 => ?_)
      | refine aw_cond rfl (fun h1 => ?_) (fun h1 => ?_)
      | refine aw_skip ?_
      | refine aw_exit ?_
      | refine aw_ret ?_
      | refine pp_ret ?_
      | refine pp_normal ?_
    all_goals first
      | rfl
      | (exfalso; omega)
      | (simp [retOf]; done)
      | (exfalso; simp_all; done)
end Go.Proofs.Ytfabgdignlfihaa
