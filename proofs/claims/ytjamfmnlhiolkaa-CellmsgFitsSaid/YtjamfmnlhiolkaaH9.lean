/- Messages: Accept. -/
import Derived.Test.YtjamfmnlhiolkaaH6
import Derived.Test.YtjamfmnlhiolkaaH4
set_option linter.unusedVariables false
set_option linter.unusedSimpArgs false
namespace Go.Proofs.Ytjamfmnlhiolkaa
open Go Av
set_option maxRecDepth 20000
/-- What Accept returns. -/
def accP (ans : MsgT → MsgT → Bool) (m : MsgT) (count : Int) (L M : List Sp) : MsgT × Int :=
  if chkM m ≠ 0 ∨ m.2.1 = true then (msg0, 1) else if ans m (m.1, true, m.2.2.1, 0, count, L, M) = true then ((m.1, true, m.2.2.1, 0, count, L, M), 0) else (msg0, 12)
set_option maxHeartbeats 8000000 in
theorem ac_accept (k n c cnt : Int) (r : Bool) (S O : List Sp) (s o : Nat) (hs : S.length = s) (ho : O.length = o) (bs : s ≤ 4000000000000) (bo : o ≤ 4000000000000) (count : Int) (L0 M0 L M : List Sp) (l u : Nat) (hl : l ≤ L0.length) (hu : u ≤ M0.length) (bl : l ≤ 4000000000000) (bu : u ≤ 4000000000000) (eL : L0.take l = L) (eM : M0.take u = M)
    (m : MsgT) (x : Int) (s2 o2 : Nat) (hs2 : m.2.2.2.2.2.1.length = s2) (ho2 : m.2.2.2.2.2.2.length = o2) (hres : accP ansB (k, r, n, c, cnt, S, O) count L M = (m, x)) :
    ACalls Try.prog 19 [.agg #[.int .i64 k, .bool r, .int .i64 n, .int .i64 c, .int .i64 cnt, .slice (some ⟨0, 0, none⟩) s s, .slice (some ⟨1, 0, none⟩) o o], .int .i64 count, .slice (some ⟨2, 0, none⟩) l l, .slice (some ⟨3, 0, none⟩) u u] [some ⟨S.flatMap spC, false, 2⟩, some ⟨O.flatMap spC, false, 2⟩, some ⟨L0.flatMap spC, false, 2⟩, some ⟨M0.flatMap spC, false, 2⟩] (.tuple #[.agg #[.int .i64 m.1, .bool m.2.1, .int .i64 m.2.2.1, .int .i64 m.2.2.2.1, .int .i64 m.2.2.2.2.1, .slice (some ⟨4, 0, none⟩) s2 s2, .slice (some ⟨5, 0, none⟩) o2 o2], .int .i64 x]) [none, none, none, none, some ⟨m.2.2.2.2.2.1.flatMap spC, true, 2⟩, some ⟨m.2.2.2.2.2.2.flatMap spC, true, 2⟩] := by
  obtain ⟨y, h1⟩ : ∃ y, chk k n c cnt r S O = y := ⟨_, rfl⟩
  have H1 := ac_check k n c cnt y r S O s o hs ho h1
  unfold accP at hres
  rw [show chkM (k, r, n, c, cnt, S, O) = y from h1] at hres
  dsimp only at hres
  by_cases hb : y ≠ 0 ∨ r = true
  · rw [if_pos hb] at hres
    obtain ⟨rfl, rfl⟩ := Prod.mk.inj hres.symm
    obtain rfl : s2 = 0 := hs2.symm
    obtain rfl : o2 = 0 := ho2.symm
    clear hres h1
    cases r
    · refine acalls_of_aw Try.func19 rfl rfl ?_
      refine aw_ghost 2 rfl ?_
      refine aw_ghost 2 rfl ?_
      repeat' first
        | refine st ?_
        | refine stRW [0, 1] H1 ?_
        | refine sdNR (r' := .slice (some ⟨8, 0, none⟩) l l) (N := [some ⟨L.flatMap spC, true, 2⟩]) [2] 1 HL ?_
        | refine sdNR (r' := .slice (some ⟨9, 0, none⟩) u u) (N := [some ⟨M.flatMap spC, true, 2⟩]) [3] 1 HM ?_
        | refine stRW [0, 1, 8, 9] H2 ?_
        | refine stm ?_
        | refine run_want rfl rfl ?_
        | refine run_unwant rfl rfl ?_
        | refine run_undef rfl rfl ?_
        | refine run_guard1t rfl rfl (by omega) ?_
        | refine run_guard1f rfl rfl (by omega) ?_
        | refine run_guard0t rfl rfl (by omega) ?_
        | refine run_guard0f rfl rfl (by omega) ?_
        | refine run_guard1 rfl rfl (fun h1 => ?_) (fun h1 => ?_)
        | refine run_guard0 rfl rfl (fun h1 => ?_) (fun h1 => ?_)
        | refine run_guard rfl rfl (fun h1 => ?_) (fun h1 => ?_)
        | refine run_nil ?_
        | refine sd ?_
        | refine sdl ?_
        | refine sdm ?_
        | refine sdb ?_
        | refine rund_want rfl rfl ?_
        | refine rund_unwant rfl rfl ?_
        | refine rund_undef rfl rfl ?_
        | refine rund_guard1 rfl rfl (fun h1 => ?_) (fun h1 => ?_)
        | refine rund_guard0 rfl rfl (fun h1 => ?_) (fun h1 => ?_)
        | refine rund_guard rfl rfl (fun h1 => ?_) (fun h1 => ?_)
        | refine rund_nil ?_
        | refine aw_seq ?_
        | refine aw_region (by kernel_rfl) (Nat.le_of_ble_eq_true rfl) ?_
        | refine aw_region_d (id := 3) [0, 1, 0, 4, 0, 0, 32, 0, 224, 511, 0, 2047] 11 (by kernel_rfl) (by kernel_rfl) (by kernel_rfl) (Nat.le_of_ble_eq_true rfl) ?_
        | refine aw_block ?_
        | refine aw_cond_t rfl ?_
        | refine aw_cond_f rfl ?_
        | refine aw_cond_tp rfl (by omega) ?_
        | refine aw_cond_fp rfl (by omega) ?_
        | refine aw_cond1 rfl (fun h1 => ?_) (fun h1 => ?_)
        | refine aw_cond rfl (fun h1 => ?_) (fun h1 => ?_)
        | refine aw_skip ?_
        | refine aw_exit ?_
        | refine aw_ret ?_
        | refine pp_ret ?_
        | refine pp_normal ?_
      all_goals first | (refine pmw_ret _ (renumA [0, 1, 2, 3, 4, 5]) ?_; exact Wk.tupleL (.cons (Wk.aggL (.cons (.refl _) (.cons (.refl _) (.cons (.refl _) (.cons (.refl _) (.cons (.refl _) (.cons .nil (.cons .nil .nil)))))))) (.cons (.refl _) .nil))) | (exfalso; omega) | (exfalso; simp_all; done)
    · refine acalls_of_aw Try.func19 rfl rfl ?_
      refine aw_ghost 2 rfl ?_
      refine aw_ghost 2 rfl ?_
      repeat' first
        | refine st ?_
        | refine stRW [0, 1] H1 ?_
        | refine sdNR (r' := .slice (some ⟨8, 0, none⟩) l l) (N := [some ⟨L.flatMap spC, true, 2⟩]) [2] 1 HL ?_
        | refine sdNR (r' := .slice (some ⟨9, 0, none⟩) u u) (N := [some ⟨M.flatMap spC, true, 2⟩]) [3] 1 HM ?_
        | refine stRW [0, 1, 8, 9] H2 ?_
        | refine stm ?_
        | refine run_want rfl rfl ?_
        | refine run_unwant rfl rfl ?_
        | refine run_undef rfl rfl ?_
        | refine run_guard1t rfl rfl (by omega) ?_
        | refine run_guard1f rfl rfl (by omega) ?_
        | refine run_guard0t rfl rfl (by omega) ?_
        | refine run_guard0f rfl rfl (by omega) ?_
        | refine run_guard1 rfl rfl (fun h1 => ?_) (fun h1 => ?_)
        | refine run_guard0 rfl rfl (fun h1 => ?_) (fun h1 => ?_)
        | refine run_guard rfl rfl (fun h1 => ?_) (fun h1 => ?_)
        | refine run_nil ?_
        | refine sd ?_
        | refine sdl ?_
        | refine sdm ?_
        | refine sdb ?_
        | refine rund_want rfl rfl ?_
        | refine rund_unwant rfl rfl ?_
        | refine rund_undef rfl rfl ?_
        | refine rund_guard1 rfl rfl (fun h1 => ?_) (fun h1 => ?_)
        | refine rund_guard0 rfl rfl (fun h1 => ?_) (fun h1 => ?_)
        | refine rund_guard rfl rfl (fun h1 => ?_) (fun h1 => ?_)
        | refine rund_nil ?_
        | refine aw_seq ?_
        | refine aw_region (by kernel_rfl) (Nat.le_of_ble_eq_true rfl) ?_
        | refine aw_region_d (id := 3) [0, 1, 0, 4, 0, 0, 32, 0, 224, 511, 0, 2047] 11 (by kernel_rfl) (by kernel_rfl) (by kernel_rfl) (Nat.le_of_ble_eq_true rfl) ?_
        | refine aw_block ?_
        | refine aw_cond_t rfl ?_
        | refine aw_cond_f rfl ?_
        | refine aw_cond_tp rfl (by omega) ?_
        | refine aw_cond_fp rfl (by omega) ?_
        | refine aw_cond1 rfl (fun h1 => ?_) (fun h1 => ?_)
        | refine aw_cond rfl (fun h1 => ?_) (fun h1 => ?_)
        | refine aw_skip ?_
        | refine aw_exit ?_
        | refine aw_ret ?_
        | refine pp_ret ?_
        | refine pp_normal ?_
      all_goals first | (refine pmw_ret _ (renumA [0, 1, 2, 3, 4, 5]) ?_; exact Wk.tupleL (.cons (Wk.aggL (.cons (.refl _) (.cons (.refl _) (.cons (.refl _) (.cons (.refl _) (.cons (.refl _) (.cons .nil (.cons .nil .nil)))))))) (.cons (.refl _) .nil))) | (exfalso; omega) | (exfalso; simp_all; done)
  · rw [if_neg hb] at hres
    obtain rfl : y = 0 := Decidable.byContradiction fun h => hb (.inl h)
    obtain rfl : r = false := by cases r; rfl; exact absurd (.inr rfl) hb
    have lL : L.length = l := by rw [← eL, List.length_take]; omega
    have lM : M.length = u := by rw [← eM, List.length_take]; omega
    obtain ⟨z, hz⟩ : ∃ z, ansB (k, false, n, c, cnt, S, O) (k, true, n, 0, count, L, M) = z := ⟨_, rfl⟩
    have H2 := ac_answers k n c cnt k n 0 count false true S O L M s o l u hs ho lL lM (by omega) (by omega) (by omega) (by omega) z hz
    have HL := ac_clone L0 l hl bl
    have HM := ac_clone M0 u hu bu
    rw [eL] at HL
    rw [eM] at HM
    rw [hz] at hres
    cases z
    · rw [if_neg (by decide)] at hres
      obtain ⟨rfl, rfl⟩ := Prod.mk.inj hres.symm
      obtain rfl : s2 = 0 := hs2.symm
      obtain rfl : o2 = 0 := ho2.symm
      clear hres h1 hz
      · refine acalls_of_aw Try.func19 rfl rfl ?_
        refine aw_ghost 2 rfl ?_
        refine aw_ghost 2 rfl ?_
        repeat' first
          | refine st ?_
          | refine stRW [0, 1] H1 ?_
          | refine sdNR (r' := .slice (some ⟨8, 0, none⟩) l l) (N := [some ⟨L.flatMap spC, true, 2⟩]) [2] 1 HL ?_
          | refine sdNR (r' := .slice (some ⟨9, 0, none⟩) u u) (N := [some ⟨M.flatMap spC, true, 2⟩]) [3] 1 HM ?_
          | refine stRW [0, 1, 8, 9] H2 ?_
          | refine stm ?_
          | refine run_want rfl rfl ?_
          | refine run_unwant rfl rfl ?_
          | refine run_undef rfl rfl ?_
          | refine run_guard1t rfl rfl (by omega) ?_
          | refine run_guard1f rfl rfl (by omega) ?_
          | refine run_guard0t rfl rfl (by omega) ?_
          | refine run_guard0f rfl rfl (by omega) ?_
          | refine run_guard1 rfl rfl (fun h1 => ?_) (fun h1 => ?_)
          | refine run_guard0 rfl rfl (fun h1 => ?_) (fun h1 => ?_)
          | refine run_guard rfl rfl (fun h1 => ?_) (fun h1 => ?_)
          | refine run_nil ?_
          | refine sd ?_
          | refine sdl ?_
          | refine sdm ?_
          | refine sdb ?_
          | refine rund_want rfl rfl ?_
          | refine rund_unwant rfl rfl ?_
          | refine rund_undef rfl rfl ?_
          | refine rund_guard1 rfl rfl (fun h1 => ?_) (fun h1 => ?_)
          | refine rund_guard0 rfl rfl (fun h1 => ?_) (fun h1 => ?_)
          | refine rund_guard rfl rfl (fun h1 => ?_) (fun h1 => ?_)
          | refine rund_nil ?_
          | refine aw_seq ?_
          | refine aw_region (by kernel_rfl) (Nat.le_of_ble_eq_true rfl) ?_
          | refine aw_region_d (id := 3) [0, 1, 0, 4, 0, 0, 32, 0, 224, 511, 0, 2047] 11 (by kernel_rfl) (by kernel_rfl) (by kernel_rfl) (Nat.le_of_ble_eq_true rfl) ?_
          | refine aw_block ?_
          | refine aw_cond_t rfl ?_
          | refine aw_cond_f rfl ?_
          | refine aw_cond_tp rfl (by omega) ?_
          | refine aw_cond_fp rfl (by omega) ?_
          | refine aw_cond1 rfl (fun h1 => ?_) (fun h1 => ?_)
          | refine aw_cond rfl (fun h1 => ?_) (fun h1 => ?_)
          | refine aw_skip ?_
          | refine aw_exit ?_
          | refine aw_ret ?_
          | refine pp_ret ?_
          | refine pp_normal ?_
        all_goals first | (refine pmw_ret _ (renumA [0, 1, 2, 3, 4, 5]) ?_; exact Wk.tupleL (.cons (Wk.aggL (.cons (.refl _) (.cons (.refl _) (.cons (.refl _) (.cons (.refl _) (.cons (.refl _) (.cons .nil (.cons .nil .nil)))))))) (.cons (.refl _) .nil))) | (exfalso; omega) | (exfalso; simp_all; done)
    · rw [if_pos rfl] at hres
      obtain ⟨rfl, rfl⟩ := Prod.mk.inj hres.symm
      dsimp only at hs2 ho2 ⊢
      obtain rfl : s2 = l := hs2.symm.trans lL
      obtain rfl : o2 = u := ho2.symm.trans lM
      clear hres h1 hz
      refine acalls_of_aw Try.func19 rfl rfl ?_
      repeat' first
        | refine st ?_
        | refine stRW [0, 1] H1 ?_
        | refine sdNR (r' := .slice (some ⟨6, 0, none⟩) s2 s2) (N := [some ⟨L.flatMap spC, true, 2⟩]) [2] 1 HL ?_
        | refine sdNR (r' := .slice (some ⟨7, 0, none⟩) o2 o2) (N := [some ⟨M.flatMap spC, true, 2⟩]) [3] 1 HM ?_
        | refine stRW [0, 1, 6, 7] H2 ?_
        | refine stm ?_
        | refine run_want rfl rfl ?_
        | refine run_unwant rfl rfl ?_
        | refine run_undef rfl rfl ?_
        | refine run_guard1t rfl rfl (by omega) ?_
        | refine run_guard1f rfl rfl (by omega) ?_
        | refine run_guard0t rfl rfl (by omega) ?_
        | refine run_guard0f rfl rfl (by omega) ?_
        | refine run_guard1 rfl rfl (fun h1 => ?_) (fun h1 => ?_)
        | refine run_guard0 rfl rfl (fun h1 => ?_) (fun h1 => ?_)
        | refine run_guard rfl rfl (fun h1 => ?_) (fun h1 => ?_)
        | refine run_nil ?_
        | refine sd ?_
        | refine sdl ?_
        | refine sdm ?_
        | refine sdb ?_
        | refine rund_want rfl rfl ?_
        | refine rund_unwant rfl rfl ?_
        | refine rund_undef rfl rfl ?_
        | refine rund_guard1 rfl rfl (fun h1 => ?_) (fun h1 => ?_)
        | refine rund_guard0 rfl rfl (fun h1 => ?_) (fun h1 => ?_)
        | refine rund_guard rfl rfl (fun h1 => ?_) (fun h1 => ?_)
        | refine rund_nil ?_
        | refine aw_seq ?_
        | refine aw_region (by kernel_rfl) (Nat.le_of_ble_eq_true rfl) ?_
        | refine aw_region_d (id := 3) [0, 1, 0, 4, 0, 0, 32, 0, 224, 511, 0, 2047] 11 (by kernel_rfl) (by kernel_rfl) (by kernel_rfl) (Nat.le_of_ble_eq_true rfl) ?_
        | refine aw_block ?_
        | refine aw_cond_t rfl ?_
        | refine aw_cond_f rfl ?_
        | refine aw_cond_tp rfl (by omega) ?_
        | refine aw_cond_fp rfl (by omega) ?_
        | refine aw_cond1 rfl (fun h1 => ?_) (fun h1 => ?_)
        | refine aw_cond rfl (fun h1 => ?_) (fun h1 => ?_)
        | refine aw_skip ?_
        | refine aw_exit ?_
        | refine aw_ret ?_
        | refine pp_ret ?_
        | refine pp_normal ?_
      all_goals first | exact pm_ret _ (renumD [0, 1, 2, 3, 6, 7]) rfl | (exfalso; omega)
end Go.Proofs.Ytjamfmnlhiolkaa
