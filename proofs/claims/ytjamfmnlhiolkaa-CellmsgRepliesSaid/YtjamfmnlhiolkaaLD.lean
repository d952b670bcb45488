/- CellmsgReplies returns true of every input: Accept and Refuse return the specified responses, or the specified errors.
   Conditions: none. -/
import Derived.Test.YtjamfmnlhiolkaaLZ
import Derived.Test.YtjamfmnlhiolkaaH7
import Derived.Test.YtjamfmnlhiolkaaK2
import Derived.Test.YtjamfmnlhiolkaaH5
import Derived.Test.YtjamfmnlhiolkaaJ
import Derived.Test.YtjamfmnlhiolkaaRows
set_option linter.unusedVariables false
set_option linter.unusedSimpArgs false
namespace Go.Proofs.Ytjamfmnlhiolkaa
open Go Av
set_option maxRecDepth 20000
set_option maxHeartbeats 8000000 in
theorem ac_raccept (k n c cnt : Int) (r : Bool) (S O : List Sp) (s o : Nat) (hs : S.length = s) (ho : O.length = o) (bs : s ≤ 4000000000000) (bo : o ≤ 4000000000000) (count : Int) (L0 M0 L M : List Sp) (l u : Nat) (hl : l ≤ L0.length) (hu : u ≤ M0.length) (bl : l ≤ 4000000000000) (bu : u ≤ 4000000000000) (eL : L0.take l = L) (eM : M0.take u = M)
    (m : MsgT) (x : Int) (s2 o2 : Nat) (hs2 : m.2.2.2.2.2.1.length = s2) (ho2 : m.2.2.2.2.2.2.length = o2) (hres : accP rnsB (k, r, n, c, cnt, S, O) count L M = (m, x)) :
    ACalls Try.prog 20 [.agg #[.int .i64 k, .bool r, .int .i64 n, .int .i64 c, .int .i64 cnt, .slice (some ⟨0, 0, none⟩) s s, .slice (some ⟨1, 0, none⟩) o o], .int .i64 count, .slice (some ⟨2, 0, none⟩) l l, .slice (some ⟨3, 0, none⟩) u u] [some ⟨S.flatMap spC, false, 2⟩, some ⟨O.flatMap spC, false, 2⟩, some ⟨L0.flatMap spC, false, 2⟩, some ⟨M0.flatMap spC, false, 2⟩] (.tuple #[.agg #[.int .i64 m.1, .bool m.2.1, .int .i64 m.2.2.1, .int .i64 m.2.2.2.1, .int .i64 m.2.2.2.2.1, .slice (some ⟨4, 0, none⟩) s2 s2, .slice (some ⟨5, 0, none⟩) o2 o2], .int .i64 x]) [none, none, none, none, some ⟨m.2.2.2.2.2.1.flatMap spC, true, 2⟩, some ⟨m.2.2.2.2.2.2.flatMap spC, true, 2⟩] := by
  obtain ⟨y, h1⟩ : ∃ y, chk k n c cnt r S O = y := ⟨_, rfl⟩
  have H1 := ac_rcheck k n c cnt y r S O s o hs ho h1
  unfold accP at hres
  rw [show chkM (k, r, n, c, cnt, S, O) = y from h1] at hres
  dsimp only at hres
  by_cases hb : y ≠ 0 ∨ r = true
  · rw [if_pos hb] at hres
    obtain ⟨rfl, rfl⟩ := Prod.mk.inj hres.symm
    obtain rfl : s2 = 0 := hs2.symm
    obtain rfl : o2 = 0 := ho2.symm
    clear hres h1
    cases r
    · refine acalls_of_aw Try.func20 rfl rfl ?_
      refine aw_ghost 2 rfl ?_
      refine aw_ghost 2 rfl ?_
      repeat' first
        | refine sdl (h := ok_buildSlice0) ?_
        | refine sdm (n := 1) (h := ok_append_lit (k := l) (xs := L.flatMap spC) rfl (.inr ⟨_, rfl⟩) rfl rfl (Src.slc rfl Ty.eq rfl (by rw [spC_len]; omega) (by rw [spC_take]; exact congrArg _ eL) (spC_one _) rfl) (by omega) (by (repeat constructor))) ?_
        | refine sdm (n := 1) (h := ok_append_lit (k := u) (xs := M.flatMap spC) rfl (.inr ⟨_, rfl⟩) rfl rfl (Src.slc rfl Ty.eq rfl (by rw [spC_len]; omega) (by rw [spC_take]; exact congrArg _ eM) (spC_one _) rfl) (by omega) (by (repeat constructor))) ?_
        | refine st ?_
        | refine stRW [0, 1] H1 ?_
        | refine stRW [0, 1, 8, 9] H2 ?_
        | refine stm ?_
        | refine run_want rfl rfl ?_
        | refine run_unwant rfl rfl ?_
        | refine run_undef rfl rfl ?_
        | refine run_guard1t rfl rfl (by omega) ?_
        | refine run_guard1f rfl rfl (by omega) ?_
        | refine run_guard0t rfl rfl (by omega) ?_
        | refine run_guard0f rfl rfl (by omega) ?_
        | refine run_guard1 rfl rfl (fun h1 => ?_) (fun h1 => ?_)
        | refine run_guard0 rfl rfl (fun h1 => ?_) (fun h1 => ?_)
        | refine run_guard rfl rfl (fun h1 => ?_) (fun h1 => ?_)
        | refine run_nil ?_
        | refine sd ?_
        | refine sdl ?_
        | refine sdm ?_
        | refine sdb ?_
        | refine rund_want rfl rfl ?_
        | refine rund_unwant rfl rfl ?_
        | refine rund_undef rfl rfl ?_
        | refine rund_guard1 rfl rfl (fun h1 => ?_) (fun h1 => ?_)
        | refine rund_guard0 rfl rfl (fun h1 => ?_) (fun h1 => ?_)
        | refine rund_guard rfl rfl (fun h1 => ?_) (fun h1 => ?_)
        | refine rund_nil ?_
        | refine aw_seq ?_
        | refine aw_region (by kernel_rfl) (Nat.le_of_ble_eq_true rfl) ?_
        | refine aw_region_d (id := 3) [0, 1, 0, 4, 0, 0, 0, 96, 0, 0, 992, 2047, 0, 8191] 13 (by kernel_rfl) (by kernel_rfl) (by kernel_rfl) (Nat.le_of_ble_eq_true rfl) ?_
        | refine aw_block ?_
        | refine aw_cond_t rfl ?_
        | refine aw_cond_f rfl ?_
        | refine aw_cond_tp rfl (by omega) ?_
        | refine aw_cond_fp rfl (by omega) ?_
        | refine aw_cond1 rfl (fun h1 => ?_) (fun h1 => ?_)
        | refine aw_cond rfl (fun h1 => ?_) (fun h1 => ?_)
        | refine aw_skip ?_
        | refine aw_exit ?_
        | refine aw_ret ?_
        | refine pp_ret ?_
        | refine pp_normal ?_
      all_goals first | (refine pmw_ret _ (renumA [0, 1, 2, 3, 4, 5]) ?_; exact Wk.tupleL (.cons (Wk.aggL (.cons (.refl _) (.cons (.refl _) (.cons (.refl _) (.cons (.refl _) (.cons (.refl _) (.cons .nil (.cons .nil .nil)))))))) (.cons (.refl _) .nil))) | (exfalso; omega) | (exfalso; simp_all; done)
    · refine acalls_of_aw Try.func20 rfl rfl ?_
      refine aw_ghost 2 rfl ?_
      refine aw_ghost 2 rfl ?_
      repeat' first
        | refine sdl (h := ok_buildSlice0) ?_
        | refine sdm (n := 1) (h := ok_append_lit (k := l) (xs := L.flatMap spC) rfl (.inr ⟨_, rfl⟩) rfl rfl (Src.slc rfl Ty.eq rfl (by rw [spC_len]; omega) (by rw [spC_take]; exact congrArg _ eL) (spC_one _) rfl) (by omega) (by (repeat constructor))) ?_
        | refine sdm (n := 1) (h := ok_append_lit (k := u) (xs := M.flatMap spC) rfl (.inr ⟨_, rfl⟩) rfl rfl (Src.slc rfl Ty.eq rfl (by rw [spC_len]; omega) (by rw [spC_take]; exact congrArg _ eM) (spC_one _) rfl) (by omega) (by (repeat constructor))) ?_
        | refine st ?_
        | refine stRW [0, 1] H1 ?_
        | refine stRW [0, 1, 8, 9] H2 ?_
        | refine stm ?_
        | refine run_want rfl rfl ?_
        | refine run_unwant rfl rfl ?_
        | refine run_undef rfl rfl ?_
        | refine run_guard1t rfl rfl (by omega) ?_
        | refine run_guard1f rfl rfl (by omega) ?_
        | refine run_guard0t rfl rfl (by omega) ?_
        | refine run_guard0f rfl rfl (by omega) ?_
        | refine run_guard1 rfl rfl (fun h1 => ?_) (fun h1 => ?_)
        | refine run_guard0 rfl rfl (fun h1 => ?_) (fun h1 => ?_)
        | refine run_guard rfl rfl (fun h1 => ?_) (fun h1 => ?_)
        | refine run_nil ?_
        | refine sd ?_
        | refine sdl ?_
        | refine sdm ?_
        | refine sdb ?_
        | refine rund_want rfl rfl ?_
        | refine rund_unwant rfl rfl ?_
        | refine rund_undef rfl rfl ?_
        | refine rund_guard1 rfl rfl (fun h1 => ?_) (fun h1 => ?_)
        | refine rund_guard0 rfl rfl (fun h1 => ?_) (fun h1 => ?_)
        | refine rund_guard rfl rfl (fun h1 => ?_) (fun h1 => ?_)
        | refine rund_nil ?_
        | refine aw_seq ?_
        | refine aw_region (by kernel_rfl) (Nat.le_of_ble_eq_true rfl) ?_
        | refine aw_region_d (id := 3) [0, 1, 0, 4, 0, 0, 0, 96, 0, 0, 992, 2047, 0, 8191] 13 (by kernel_rfl) (by kernel_rfl) (by kernel_rfl) (Nat.le_of_ble_eq_true rfl) ?_
        | refine aw_block ?_
        | refine aw_cond_t rfl ?_
        | refine aw_cond_f rfl ?_
        | refine aw_cond_tp rfl (by omega) ?_
        | refine aw_cond_fp rfl (by omega) ?_
        | refine aw_cond1 rfl (fun h1 => ?_) (fun h1 => ?_)
        | refine aw_cond rfl (fun h1 => ?_) (fun h1 => ?_)
        | refine aw_skip ?_
        | refine aw_exit ?_
        | refine aw_ret ?_
        | refine pp_ret ?_
        | refine pp_normal ?_
      all_goals first | (refine pmw_ret _ (renumA [0, 1, 2, 3, 4, 5]) ?_; exact Wk.tupleL (.cons (Wk.aggL (.cons (.refl _) (.cons (.refl _) (.cons (.refl _) (.cons (.refl _) (.cons (.refl _) (.cons .nil (.cons .nil .nil)))))))) (.cons (.refl _) .nil))) | (exfalso; omega) | (exfalso; simp_all; done)
  · rw [if_neg hb] at hres
    obtain rfl : y = 0 := Decidable.byContradiction fun h => hb (.inl h)
    obtain rfl : r = false := by cases r; rfl; exact absurd (.inr rfl) hb
    have lL : L.length = l := by rw [← eL, List.length_take]; omega
    have lM : M.length = u := by rw [← eM, List.length_take]; omega
    obtain ⟨z, hz⟩ : ∃ z, rnsB (k, false, n, c, cnt, S, O) (k, true, n, 0, count, L, M) = z := ⟨_, rfl⟩
    have H2 := ac_ranswers k n c cnt k n 0 count false true S O L M s o l u hs ho lL lM (by omega) (by omega) (by omega) (by omega) z hz
    have HL := ac_clone L0 l hl bl
    have HM := ac_clone M0 u hu bu
    rw [eL] at HL
    rw [eM] at HM
    rw [hz] at hres
    cases z
    · rw [if_neg (by decide)] at hres
      obtain ⟨rfl, rfl⟩ := Prod.mk.inj hres.symm
      obtain rfl : s2 = 0 := hs2.symm
      obtain rfl : o2 = 0 := ho2.symm
      clear hres h1 hz
      · refine acalls_of_aw Try.func20 rfl rfl ?_
        refine aw_ghost 2 rfl ?_
        refine aw_ghost 2 rfl ?_
        repeat' first
          | refine sdl (h := ok_buildSlice0) ?_
          | refine sdm (n := 1) (h := ok_append_lit (k := l) (xs := L.flatMap spC) rfl (.inr ⟨_, rfl⟩) rfl rfl (Src.slc rfl Ty.eq rfl (by rw [spC_len]; omega) (by rw [spC_take]; exact congrArg _ eL) (spC_one _) rfl) (by omega) (by (repeat constructor))) ?_
          | refine sdm (n := 1) (h := ok_append_lit (k := u) (xs := M.flatMap spC) rfl (.inr ⟨_, rfl⟩) rfl rfl (Src.slc rfl Ty.eq rfl (by rw [spC_len]; omega) (by rw [spC_take]; exact congrArg _ eM) (spC_one _) rfl) (by omega) (by (repeat constructor))) ?_
          | refine st ?_
          | refine stRW [0, 1] H1 ?_
          | refine stRW [0, 1, 8, 9] H2 ?_
          | refine stm ?_
          | refine run_want rfl rfl ?_
          | refine run_unwant rfl rfl ?_
          | refine run_undef rfl rfl ?_
          | refine run_guard1t rfl rfl (by omega) ?_
          | refine run_guard1f rfl rfl (by omega) ?_
          | refine run_guard0t rfl rfl (by omega) ?_
          | refine run_guard0f rfl rfl (by omega) ?_
          | refine run_guard1 rfl rfl (fun h1 => ?_) (fun h1 => ?_)
          | refine run_guard0 rfl rfl (fun h1 => ?_) (fun h1 => ?_)
          | refine run_guard rfl rfl (fun h1 => ?_) (fun h1 => ?_)
          | refine run_nil ?_
          | refine sd ?_
          | refine sdl ?_
          | refine sdm ?_
          | refine sdb ?_
          | refine rund_want rfl rfl ?_
          | refine rund_unwant rfl rfl ?_
          | refine rund_undef rfl rfl ?_
          | refine rund_guard1 rfl rfl (fun h1 => ?_) (fun h1 => ?_)
          | refine rund_guard0 rfl rfl (fun h1 => ?_) (fun h1 => ?_)
          | refine rund_guard rfl rfl (fun h1 => ?_) (fun h1 => ?_)
          | refine rund_nil ?_
          | refine aw_seq ?_
          | refine aw_region (by kernel_rfl) (Nat.le_of_ble_eq_true rfl) ?_
          | refine aw_region_d (id := 3) [0, 1, 0, 4, 0, 0, 0, 96, 0, 0, 992, 2047, 0, 8191] 13 (by kernel_rfl) (by kernel_rfl) (by kernel_rfl) (Nat.le_of_ble_eq_true rfl) ?_
          | refine aw_block ?_
          | refine aw_cond_t rfl ?_
          | refine aw_cond_f rfl ?_
          | refine aw_cond_tp rfl (by omega) ?_
          | refine aw_cond_fp rfl (by omega) ?_
          | refine aw_cond1 rfl (fun h1 => ?_) (fun h1 => ?_)
          | refine aw_cond rfl (fun h1 => ?_) (fun h1 => ?_)
          | refine aw_skip ?_
          | refine aw_exit ?_
          | refine aw_ret ?_
          | refine pp_ret ?_
          | refine pp_normal ?_
        all_goals first | (refine pmw_ret _ (renumA [0, 1, 2, 3, 4, 5]) ?_; exact Wk.tupleL (.cons (Wk.aggL (.cons (.refl _) (.cons (.refl _) (.cons (.refl _) (.cons (.refl _) (.cons (.refl _) (.cons .nil (.cons .nil .nil)))))))) (.cons (.refl _) .nil))) | (exfalso; omega) | (exfalso; simp_all; done)
    · rw [if_pos rfl] at hres
      obtain ⟨rfl, rfl⟩ := Prod.mk.inj hres.symm
      dsimp only at hs2 ho2 ⊢
      obtain rfl : s2 = l := hs2.symm.trans lL
      obtain rfl : o2 = u := ho2.symm.trans lM
      clear hres h1 hz
      refine acalls_of_aw Try.func20 rfl rfl ?_
      repeat' first
        | refine sdl (h := ok_buildSlice0) ?_
        | refine sdm (n := 1) (h := ok_append_lit (k := s2) (xs := L.flatMap spC) rfl (.inr ⟨_, rfl⟩) rfl rfl (Src.slc rfl Ty.eq rfl (by rw [spC_len]; omega) (by rw [spC_take]; exact congrArg _ eL) (spC_one _) rfl) (by omega) (by (repeat constructor))) ?_
        | refine sdm (n := 1) (h := ok_append_lit (k := o2) (xs := M.flatMap spC) rfl (.inr ⟨_, rfl⟩) rfl rfl (Src.slc rfl Ty.eq rfl (by rw [spC_len]; omega) (by rw [spC_take]; exact congrArg _ eM) (spC_one _) rfl) (by omega) (by (repeat constructor))) ?_
        | refine st ?_
        | refine stRW [0, 1] H1 ?_
        | refine stRW [0, 1, 6, 7] H2 ?_
        | refine stm ?_
        | refine run_want rfl rfl ?_
        | refine run_unwant rfl rfl ?_
        | refine run_undef rfl rfl ?_
        | refine run_guard1t rfl rfl (by omega) ?_
        | refine run_guard1f rfl rfl (by omega) ?_
        | refine run_guard0t rfl rfl (by omega) ?_
        | refine run_guard0f rfl rfl (by omega) ?_
        | refine run_guard1 rfl rfl (fun h1 => ?_) (fun h1 => ?_)
        | refine run_guard0 rfl rfl (fun h1 => ?_) (fun h1 => ?_)
        | refine run_guard rfl rfl (fun h1 => ?_) (fun h1 => ?_)
        | refine run_nil ?_
        | refine sd ?_
        | refine sdl ?_
        | refine sdm ?_
        | refine sdb ?_
        | refine rund_want rfl rfl ?_
        | refine rund_unwant rfl rfl ?_
        | refine rund_undef rfl rfl ?_
        | refine rund_guard1 rfl rfl (fun h1 => ?_) (fun h1 => ?_)
        | refine rund_guard0 rfl rfl (fun h1 => ?_) (fun h1 => ?_)
        | refine rund_guard rfl rfl (fun h1 => ?_) (fun h1 => ?_)
        | refine rund_nil ?_
        | refine aw_seq ?_
        | refine aw_region (by kernel_rfl) (Nat.le_of_ble_eq_true rfl) ?_
        | refine aw_region_d (id := 3) [0, 1, 0, 4, 0, 0, 0, 96, 0, 0, 992, 2047, 0, 8191] 13 (by kernel_rfl) (by kernel_rfl) (by kernel_rfl) (Nat.le_of_ble_eq_true rfl) ?_
        | refine aw_block ?_
        | refine aw_cond_t rfl ?_
        | refine aw_cond_f rfl ?_
        | refine aw_cond_tp rfl (by omega) ?_
        | refine aw_cond_fp rfl (by omega) ?_
        | refine aw_cond1 rfl (fun h1 => ?_) (fun h1 => ?_)
        | refine aw_cond rfl (fun h1 => ?_) (fun h1 => ?_)
        | refine aw_skip ?_
        | refine aw_exit ?_
        | refine aw_ret ?_
        | refine pp_ret ?_
        | refine pp_normal ?_
      all_goals first | exact pm_ret _ (renumD [0, 1, 2, 3, 6, 7]) rfl | (exfalso; omega)
set_option maxHeartbeats 8000000 in
theorem law_replies (k n c cnt : Int) (r : Bool) (S O : List Sp) (count : Int) (L M : List Sp) (code : Int) : ACalls Try.prog 6 [.agg #[.int .i64 k, .bool r, .int .i64 n, .int .i64 c, .int .i64 cnt, .slice (some ⟨0, 0, none⟩) S.length S.length, .slice (some ⟨1, 0, none⟩) O.length O.length], .int .i64 count, .slice (some ⟨2, 0, none⟩) L.length L.length, .slice (some ⟨3, 0, none⟩) M.length M.length, .int .i64 code] [some ⟨S.flatMap spC, false, 2⟩, some ⟨O.flatMap spC, false, 2⟩, some ⟨L.flatMap spC, false, 2⟩, some ⟨M.flatMap spC, false, 2⟩] (.bool true) [none, none, none, none] := by
  obtain ⟨s, hs⟩ : ∃ s, S.length = s := ⟨_, rfl⟩
  obtain ⟨o, ho⟩ : ∃ o, O.length = o := ⟨_, rfl⟩
  rw [hs, ho]
  have HF := ac_few k n c cnt r s o
  by_cases hf : s ≤ 12 ∧ o ≤ 12
  · rw [decide_eq_true hf] at HF
    obtain ⟨l, hl⟩ : ∃ l, L.length = l := ⟨_, rfl⟩
    obtain ⟨u, hu⟩ : ∃ u, M.length = u := ⟨_, rfl⟩
    rw [hl, hu]
    by_cases hg : l ≤ 12 ∧ u ≤ 12
    · obtain ⟨m, x, hres⟩ : ∃ m x, accP ansB (k, r, n, c, cnt, S, O) count L M = (m, x) := ⟨_, _, rfl⟩
      have H1 := ac_accept k n c cnt r S O s o hs ho (by omega) (by omega) count L M L M l u (by omega) (by omega) (by omega) (by omega) (List.take_of_length_le (by omega)) (List.take_of_length_le (by omega)) m x _ _ rfl rfl hres
      have hans : ansB = rnsB := by funext a b; exact ans_same a b
      rw [hans] at hres
      have H2 := ac_raccept k n c cnt r S O s o hs ho (by omega) (by omega) count L M L M l u (by omega) (by omega) (by omega) (by omega) (List.take_of_length_le (by omega)) (List.take_of_length_le (by omega)) m x _ _ rfl rfl hres
      have hlen : m.2.2.2.2.2.1.length ≤ 12 ∧ m.2.2.2.2.2.2.length ≤ 12 := by
        unfold accP at hres
        split at hres
        · obtain ⟨rfl, _⟩ := Prod.mk.inj hres; exact ⟨by decide, by decide⟩
        · split at hres
          · obtain ⟨rfl, _⟩ := Prod.mk.inj hres; dsimp only; omega
          · obtain ⟨rfl, _⟩ := Prod.mk.inj hres; exact ⟨by decide, by decide⟩
      obtain ⟨m2, x2, hres2⟩ : ∃ m x, refP (k, r, n, c, cnt, S, O) code = (m, x) := ⟨_, _, rfl⟩
      have H3 := ac_refuse k n c cnt r S O s o hs ho code m2 x2 hres2
      have H4 := ac_rrefuse k n c cnt r S O s o hs ho code m2 x2 hres2
      obtain ⟨k1, r1, n1, c1, cnt1, S1, O1⟩ := m
      obtain ⟨k2, r2, n2, c2, cnt2, S2, O2⟩ := m2
      dsimp only at H1 H2 H3 H4 hlen
      obtain ⟨s1, hs1⟩ : ∃ s, S1.length = s := ⟨_, rfl⟩
      obtain ⟨o1, ho1⟩ : ∃ o, O1.length = o := ⟨_, rfl⟩
      rw [hs1, ho1] at H1 H2 hlen
      have H5 := ac_same k1 n1 c1 cnt1 k1 n1 c1 cnt1 r1 r1 S1 O1 S1 O1 s1 o1 s1 o1 hs1 ho1 hs1 ho1 (by omega) (by omega) (by omega) (by omega) true (sameM_iff.2 rfl)
      have H6 := ac_same k2 n2 c2 cnt2 k2 n2 c2 cnt2 r2 r2 [] [] [] [] 0 0 0 0 rfl rfl rfl rfl (by decide) (by decide) (by decide) (by decide) true (sameM_iff.2 rfl)
      clear hres hres2
      refine acalls_law Try.func6 rfl rfl rfl ?_
      repeat' first
        | refine st ?_
        | refine st_call (ac_awake) ?_
        | refine stRW [0, 1] HF ?_
        | refine stMW [0, 1, 2, 3] H1 ?_
        | refine stMW [0, 1, 2, 3] H2 ?_
        | refine stMW [0, 1] H3 ?_
        | refine stMW [0, 1] H4 ?_
        | refine stRW [5, 6, 8, 9] H5 ?_
        | refine stRW [11, 12, 14, 15] H6 ?_
        | refine stm ?_
        | refine run_want rfl rfl ?_
        | refine run_unwant rfl rfl ?_
        | refine run_undef rfl rfl ?_
        | refine run_guard1t rfl rfl (by omega) ?_
        | refine run_guard1f rfl rfl (by omega) ?_
        | refine run_guard0t rfl rfl (by omega) ?_
        | refine run_guard0f rfl rfl (by omega) ?_
        | refine run_guard1 rfl rfl (fun h1 => ?_) (fun h1 => ?_)
        | refine run_guard0 rfl rfl (fun h1 => ?_) (fun h1 => ?_)
        | refine run_guard rfl rfl (fun h1 => ?_) (fun h1 => ?_)
        | refine run_nil ?_
        | refine aw_seq ?_
        | refine aw_region (by kernel_rfl) (Nat.le_of_ble_eq_true rfl) ?_
        | refine aw_block ?_
        | refine aw_cond_t rfl ?_
        | refine aw_cond_f rfl ?_
        | refine aw_cond_tp rfl (by omega) ?_
        | refine aw_cond_fp rfl (by omega) ?_
        | refine aw_cond1 rfl (fun h1 => ?_) (fun h1 => ?_)
        | refine aw_cond rfl (fun h1 => ?_) (fun h1 => ?_)
        | refine aw_skip ?_
        | refine aw_exit ?_
        | refine aw_ret ?_
        | refine pp_ret ?_
        | refine pp_normal ?_
      all_goals first
        | rfl
        | (exfalso; omega)
        | (simp [retOf]; done)
        | (exfalso; simp_all; done)
    · refine acalls_law Try.func6 rfl rfl rfl ?_
      repeat' first
        | refine st ?_
        | refine st_call (ac_awake) ?_
        | refine stRW [0, 1] HF ?_
        | refine stm ?_
        | refine run_want rfl rfl ?_
        | refine run_unwant rfl rfl ?_
        | refine run_undef rfl rfl ?_
        | refine run_guard1t rfl rfl (by omega) ?_
        | refine run_guard1f rfl rfl (by omega) ?_
        | refine run_guard0t rfl rfl (by omega) ?_
        | refine run_guard0f rfl rfl (by omega) ?_
        | refine run_guard1 rfl rfl (fun h1 => ?_) (fun h1 => ?_)
        | refine run_guard0 rfl rfl (fun h1 => ?_) (fun h1 => ?_)
        | refine run_guard rfl rfl (fun h1 => ?_) (fun h1 => ?_)
        | refine run_nil ?_
        | refine aw_seq ?_
        | refine aw_region (by kernel_rfl) (Nat.le_of_ble_eq_true rfl) ?_
        | refine aw_block ?_
        | refine aw_cond_t rfl ?_
        | refine aw_cond_f rfl ?_
        | refine aw_cond_tp rfl (by omega) ?_
        | refine aw_cond_fp rfl (by omega) ?_
        | refine aw_cond1 rfl (fun h1 => ?_) (fun h1 => ?_)
        | refine aw_cond rfl (fun h1 => ?_) (fun h1 => ?_)
        | refine aw_skip ?_
        | refine aw_exit ?_
        | refine aw_ret ?_
        | refine pp_ret ?_
        | refine pp_normal ?_
      all_goals first
        | rfl
        | (exfalso; omega)
        | (simp [retOf]; done)
        | (exfalso; simp_all; done)
  · rw [decide_eq_false hf] at HF
    refine acalls_law Try.func6 rfl rfl rfl ?_
    repeat' first
      | refine st ?_
      | refine st_call (ac_awake) ?_
      | refine stRW [0, 1] HF ?_
      | refine stm ?_
      | refine run_want rfl rfl ?_
      | refine run_unwant rfl rfl ?_
      | refine run_undef rfl rfl ?_
      | refine run_guard1t rfl rfl (by omega) ?_
      | refine run_guard1f rfl rfl (by omega) ?_
      | refine run_guard0t rfl rfl (by omega) ?_
      | refine run_guard0f rfl rfl (by omega) ?_
      | refine run_guard1 rfl rfl (fun h1 => ?_) (fun h1 => ?_)
      | refine run_guard0 rfl rfl (fun h1 => ?_) (fun h1 => ?_)
      | refine run_guard rfl rfl (fun h1 => ?_) (fun h1 => ?_)
      | refine run_nil ?_
      | refine aw_seq ?_
      | refine aw_region (by kernel_rfl) (Nat.le_of_ble_eq_true rfl) ?_
      | refine aw_block ?_
      | refine aw_cond_t rfl ?_
      | refine aw_cond_f rfl ?_
      | refine aw_cond_tp rfl (by omega) ?_
      | refine aw_cond_fp rfl (by omega) ?_
      | refine aw_cond1 rfl (fun h1 => ?_) (fun h1 => ?_)
      | refine aw_cond rfl (fun h1 => ?_) (fun h1 => ?_)
      | refine aw_skip ?_
      | refine aw_exit ?_
      | refine aw_ret ?_
      | refine pp_ret ?_
      | refine pp_normal ?_
    all_goals first
      | rfl
      | (exfalso; omega)
      | (simp [retOf]; done)
      | (exfalso; simp_all; done)
open Go.ChangeShapes Go.WideShapes Go.ChangeAt Go.RowKit
namespace cellmsgReplies
theorem own : ownKnob Try.prog.godebug = none := by kernel_rfl
set_option maxRecDepth 100000 in
theorem lifted (os : Os) (started : os.Started) (H : Type) (enc : TypeId × Value → H) :
    ReturnsInHanded {} Try.checked os 6 .any (Rows.cellmsgRepliesSpec.pre6 enc Try.prog Try.f6 Rows.cellmsgRepliesRow.domain false) (Rows.cellmsgRepliesSpec.post enc Try.prog Try.f6 false true false false) := by
  refine returnsInHanded_of_change_sized (C := Try.checked) own started (by kernel_rfl) Try.func6
    (ChangeSpec.witness6 (enc := enc) (C := Try.checked) false ⟨#[], #[.agg #[.int .i64 0, .bool false, .int .i64 0, .int .i64 0, .int .i64 0, .slice none 0 0, .slice none 0 0], .int .i64 0, .slice none 0 0, .slice none 0 0, .int .i64 0], []⟩ 8 (by kernel_rfl) (by kernel_rfl) (by kernel_rfl) (by kernel_rfl)) ?_
  intro W base args ds gs before hval0 hW _ hsz _
  obtain ⟨p, q, hA0, hV, hbf, hfz, hnd⟩ := id hW
  have hA : DataW.TrodAll enc Try.prog W 0 (fun _ => true) true [24, 3, 22, 22, 3] args.toList ds p := hA0
  obtain ⟨a, hR, ls, hl, hv, hc⟩ := RdA.rd (P := Try.prog) hA fun j t v h1 h2 => hval0 j t v (by rw [← Array.getElem?_toList]; exact h1) (by rw [← Array.getElem?_toList]; exact h2)
  have hcall := calls_rd0 (P := Try.prog) (f := 6) (r := .bool true) (W := W) (by
    exact ⟨_, law_replies a.1.1 a.1.2.2.1 a.1.2.2.2.1 a.1.2.2.2.2.1 a.1.2.1 a.1.2.2.2.2.2.1 a.1.2.2.2.2.2.2.1 a.2.1 a.2.2.1 a.2.2.2.1 a.2.2.2.2.1⟩) rfl hl (hv 0) hc
  obtain ⟨v0, vs0, d0, ds0, p0, q0, x0, rfl, y0, h0, r0⟩ := trodAll_cons hA
  obtain ⟨v1, vs1, d1, ds1, p1, q1, x1, rfl, y1, h1, r1⟩ := trodAll_cons r0
  obtain ⟨v2, vs2, d2, ds2, p2, q2, x2, rfl, y2, h2, r2⟩ := trodAll_cons r1
  obtain ⟨v3, vs3, d3, ds3, p3, q3, x3, rfl, y3, h3, r3⟩ := trodAll_cons r2
  obtain ⟨v4, vs4, d4, ds4, p4, q4, x4, rfl, y4, h4, r4⟩ := trodAll_cons r3
  obtain ⟨_, rfl, _⟩ := trodAll_nil r4
  exact hcall.mono fun e W' ⟨he, hb⟩ => ⟨_, he, law_post (tb := 4) (by kernel_rfl) (by kernel_rfl) rfl Try.underlying4 rfl rfl rfl rfl hW hb⟩
theorem over : Rows.cellmsgRepliesRow.holds Try.pinned (OpenSpec.ofChange Rows.cellmsgRepliesSpec) :=
  OpenClaim.holds_of_wide 6 Try.f6 rfl rfl rfl rfl rfl rfl rfl ⟨rfl, rfl, rfl, rfl, rfl⟩ rfl rfl rfl rfl rfl (by kernel_rfl) Try.func6 (by kernel_rfl)
    (of_decide_eq_true (by kernel_rfl)) (by unfold Func.isWrapper; first | (rw [if_pos (by decide +kernel)]; kernel_rfl) | (rw [if_neg (by decide +kernel)]; exact ⟨rfl, rfl⟩))
    (fun os started H enc _ => lifted os started H enc)
theorem proved : Rows.CellmsgRepliesSaid := over
#print axioms proved
end cellmsgReplies
end Go.Proofs.Ytjamfmnlhiolkaa
