/- Messages: what answers what. -/
import Derived.Test.YtjamfmnlhiolkaaH6
set_option linter.unusedVariables false
set_option linter.unusedSimpArgs false
namespace Go.Proofs.Ytjamfmnlhiolkaa
open Go Av
set_option maxRecDepth 20000
/-- What Refuse returns. -/
def refP (m : MsgT) (code : Int) : MsgT × Int := if chkM m ≠ 0 ∨ m.2.1 = true then (msg0, 1) else if code < 1 ∨ 3 < code then (msg0, 2) else ((m.1, true, m.2.2.1, code, 0, [], []), 0)
set_option maxHeartbeats 4000000 in
theorem ac_refuse (k n c cnt : Int) (r : Bool) (S O : List Sp) (s o : Nat) (hs : S.length = s) (ho : O.length = o) (code : Int) (m : MsgT) (x : Int) (hres : refP (k, r, n, c, cnt, S, O) code = (m, x)) : ACalls Try.prog 21 [.agg #[.int .i64 k, .bool r, .int .i64 n, .int .i64 c, .int .i64 cnt, .slice (some ⟨0, 0, none⟩) s s, .slice (some ⟨1, 0, none⟩) o o], .int .i64 code] [some ⟨S.flatMap spC, false, 2⟩, some ⟨O.flatMap spC, false, 2⟩] (.tuple #[.agg #[.int .i64 m.1, .bool m.2.1, .int .i64 m.2.2.1, .int .i64 m.2.2.2.1, .int .i64 m.2.2.2.2.1, .slice (some ⟨2, 0, none⟩) 0 0, .slice (some ⟨3, 0, none⟩) 0 0], .int .i64 x]) [none, none, some ⟨[], true, 2⟩, some ⟨[], true, 2⟩] := by
  obtain ⟨y, h1⟩ : ∃ y, chk k n c cnt r S O = y := ⟨_, rfl⟩
  have H1 := ac_check k n c cnt y r S O s o hs ho h1
  unfold refP at hres
  rw [show chkM (k, r, n, c, cnt, S, O) = y from h1] at hres
  dsimp only at hres
  by_cases hb : y ≠ 0 ∨ r = true
  · rw [if_pos hb] at hres
    obtain ⟨rfl, rfl⟩ := Prod.mk.inj hres.symm
    clear hres h1
    cases r
    · refine acalls_of_aw Try.func21 rfl rfl ?_
      refine aw_ghost 2 rfl ?_
      refine aw_ghost 2 rfl ?_
      repeat' first
        | refine st ?_
        | refine stRW [0, 1] H1 ?_
        | refine stm ?_
        | refine run_want rfl rfl ?_
        | refine run_unwant rfl rfl ?_
        | refine run_undef rfl rfl ?_
        | refine run_guard1t rfl rfl (by omega) ?_
        | refine run_guard1f rfl rfl (by omega) ?_
        | refine run_guard0t rfl rfl (by omega) ?_
        | refine run_guard0f rfl rfl (by omega) ?_
        | refine run_guard1 rfl rfl (fun h1 => ?_) (fun h1 => ?_)
        | refine run_guard0 rfl rfl (fun h1 => ?_) (fun h1 => ?_)
        | refine run_guard rfl rfl (fun h1 => ?_) (fun h1 => ?_)
        | refine run_nil ?_
        | refine aw_seq ?_
        | refine aw_region (by kernel_rfl) (Nat.le_of_ble_eq_true rfl) ?_
        | refine aw_block ?_
        | refine aw_cond_t rfl ?_
        | refine aw_cond_f rfl ?_
        | refine aw_cond_tp rfl (by omega) ?_
        | refine aw_cond_fp rfl (by omega) ?_
        | refine aw_cond1 rfl (fun h1 => ?_) (fun h1 => ?_)
        | refine aw_cond rfl (fun h1 => ?_) (fun h1 => ?_)
        | refine aw_skip ?_
        | refine aw_exit ?_
        | refine aw_ret ?_
        | refine pp_ret ?_
        | refine pp_normal ?_
      all_goals first | (refine pmw_ret _ (renumA [0, 1, 2, 3]) ?_; exact Wk.tupleL (.cons (Wk.aggL (.cons (.refl _) (.cons (.refl _) (.cons (.refl _) (.cons (.refl _) (.cons (.refl _) (.cons .nil (.cons .nil .nil)))))))) (.cons (.refl _) .nil))) | (exfalso; omega) | (exfalso; simp_all; done)
    · refine acalls_of_aw Try.func21 rfl rfl ?_
      refine aw_ghost 2 rfl ?_
      refine aw_ghost 2 rfl ?_
      repeat' first
        | refine st ?_
        | refine stRW [0, 1] H1 ?_
        | refine stm ?_
        | refine run_want rfl rfl ?_
        | refine run_unwant rfl rfl ?_
        | refine run_undef rfl rfl ?_
        | refine run_guard1t rfl rfl (by omega) ?_
        | refine run_guard1f rfl rfl (by omega) ?_
        | refine run_guard0t rfl rfl (by omega) ?_
        | refine run_guard0f rfl rfl (by omega) ?_
        | refine run_guard1 rfl rfl (fun h1 => ?_) (fun h1 => ?_)
        | refine run_guard0 rfl rfl (fun h1 => ?_) (fun h1 => ?_)
        | refine run_guard rfl rfl (fun h1 => ?_) (fun h1 => ?_)
        | refine run_nil ?_
        | refine aw_seq ?_
        | refine aw_region (by kernel_rfl) (Nat.le_of_ble_eq_true rfl) ?_
        | refine aw_block ?_
        | refine aw_cond_t rfl ?_
        | refine aw_cond_f rfl ?_
        | refine aw_cond_tp rfl (by omega) ?_
        | refine aw_cond_fp rfl (by omega) ?_
        | refine aw_cond1 rfl (fun h1 => ?_) (fun h1 => ?_)
        | refine aw_cond rfl (fun h1 => ?_) (fun h1 => ?_)
        | refine aw_skip ?_
        | refine aw_exit ?_
        | refine aw_ret ?_
        | refine pp_ret ?_
        | refine pp_normal ?_
      all_goals first | (refine pmw_ret _ (renumA [0, 1, 2, 3]) ?_; exact Wk.tupleL (.cons (Wk.aggL (.cons (.refl _) (.cons (.refl _) (.cons (.refl _) (.cons (.refl _) (.cons (.refl _) (.cons .nil (.cons .nil .nil)))))))) (.cons (.refl _) .nil))) | (exfalso; omega) | (exfalso; simp_all; done)
  · rw [if_neg hb] at hres
    by_cases hcd : code < 1 ∨ 3 < code
    · rw [if_pos hcd] at hres
      obtain ⟨rfl, rfl⟩ := Prod.mk.inj hres.symm
      clear hres h1
      cases r
      · refine acalls_of_aw Try.func21 rfl rfl ?_
        refine aw_ghost 2 rfl ?_
        refine aw_ghost 2 rfl ?_
        repeat' first
          | refine st ?_
          | refine stRW [0, 1] H1 ?_
          | refine stm ?_
          | refine run_want rfl rfl ?_
          | refine run_unwant rfl rfl ?_
          | refine run_undef rfl rfl ?_
          | refine run_guard1t rfl rfl (by omega) ?_
          | refine run_guard1f rfl rfl (by omega) ?_
          | refine run_guard0t rfl rfl (by omega) ?_
          | refine run_guard0f rfl rfl (by omega) ?_
          | refine run_guard1 rfl rfl (fun h1 => ?_) (fun h1 => ?_)
          | refine run_guard0 rfl rfl (fun h1 => ?_) (fun h1 => ?_)
          | refine run_guard rfl rfl (fun h1 => ?_) (fun h1 => ?_)
          | refine run_nil ?_
          | refine aw_seq ?_
          | refine aw_region (by kernel_rfl) (Nat.le_of_ble_eq_true rfl) ?_
          | refine aw_block ?_
          | refine aw_cond_t rfl ?_
          | refine aw_cond_f rfl ?_
          | refine aw_cond_tp rfl (by omega) ?_
          | refine aw_cond_fp rfl (by omega) ?_
          | refine aw_cond1 rfl (fun h1 => ?_) (fun h1 => ?_)
          | refine aw_cond rfl (fun h1 => ?_) (fun h1 => ?_)
          | refine aw_skip ?_
          | refine aw_exit ?_
          | refine aw_ret ?_
          | refine pp_ret ?_
          | refine pp_normal ?_
        all_goals first | (refine pmw_ret _ (renumA [0, 1, 2, 3]) ?_; exact Wk.tupleL (.cons (Wk.aggL (.cons (.refl _) (.cons (.refl _) (.cons (.refl _) (.cons (.refl _) (.cons (.refl _) (.cons .nil (.cons .nil .nil)))))))) (.cons (.refl _) .nil))) | (exfalso; omega) | (exfalso; simp_all; done)
      · exact absurd (.inr rfl) hb
    · rw [if_neg hcd] at hres
      obtain ⟨rfl, rfl⟩ := Prod.mk.inj hres.symm
      clear hres h1
      cases r
      · refine acalls_of_aw Try.func21 rfl rfl ?_
        refine aw_ghost 2 rfl ?_
        refine aw_ghost 2 rfl ?_
        repeat' first
          | refine st ?_
          | refine stRW [0, 1] H1 ?_
          | refine stm ?_
          | refine run_want rfl rfl ?_
          | refine run_unwant rfl rfl ?_
          | refine run_undef rfl rfl ?_
          | refine run_guard1t rfl rfl (by omega) ?_
          | refine run_guard1f rfl rfl (by omega) ?_
          | refine run_guard0t rfl rfl (by omega) ?_
          | refine run_guard0f rfl rfl (by omega) ?_
          | refine run_guard1 rfl rfl (fun h1 => ?_) (fun h1 => ?_)
          | refine run_guard0 rfl rfl (fun h1 => ?_) (fun h1 => ?_)
          | refine run_guard rfl rfl (fun h1 => ?_) (fun h1 => ?_)
          | refine run_nil ?_
          | refine aw_seq ?_
          | refine aw_region (by kernel_rfl) (Nat.le_of_ble_eq_true rfl) ?_
          | refine aw_block ?_
          | refine aw_cond_t rfl ?_
          | refine aw_cond_f rfl ?_
          | refine aw_cond_tp rfl (by omega) ?_
          | refine aw_cond_fp rfl (by omega) ?_
          | refine aw_cond1 rfl (fun h1 => ?_) (fun h1 => ?_)
          | refine aw_cond rfl (fun h1 => ?_) (fun h1 => ?_)
          | refine aw_skip ?_
          | refine aw_exit ?_
          | refine aw_ret ?_
          | refine pp_ret ?_
          | refine pp_normal ?_
        all_goals first | (refine pmw_ret _ (renumA [0, 1, 2, 3]) ?_; exact Wk.tupleL (.cons (Wk.aggL (.cons (.refl _) (.cons (.refl _) (.cons (.refl _) (.cons (.refl _) (.cons (.refl _) (.cons .nil (.cons .nil .nil)))))))) (.cons (.refl _) .nil))) | (exfalso; omega) | (exfalso; simp_all; done)
      · exact absurd (.inr rfl) hb
set_option maxHeartbeats 4000000 in
theorem ac_rrefuse (k n c cnt : Int) (r : Bool) (S O : List Sp) (s o : Nat) (hs : S.length = s) (ho : O.length = o) (code : Int) (m : MsgT) (x : Int) (hres : refP (k, r, n, c, cnt, S, O) code = (m, x)) : ACalls Try.prog 22 [.agg #[.int .i64 k, .bool r, .int .i64 n, .int .i64 c, .int .i64 cnt, .slice (some ⟨0, 0, none⟩) s s, .slice (some ⟨1, 0, none⟩) o o], .int .i64 code] [some ⟨S.flatMap spC, false, 2⟩, some ⟨O.flatMap spC, false, 2⟩] (.tuple #[.agg #[.int .i64 m.1, .bool m.2.1, .int .i64 m.2.2.1, .int .i64 m.2.2.2.1, .int .i64 m.2.2.2.2.1, .slice (some ⟨2, 0, none⟩) 0 0, .slice (some ⟨3, 0, none⟩) 0 0], .int .i64 x]) [none, none, some ⟨[], true, 2⟩, some ⟨[], true, 2⟩] := by
  obtain ⟨y, h1⟩ : ∃ y, chk k n c cnt r S O = y := ⟨_, rfl⟩
  have H1 := ac_rcheck k n c cnt y r S O s o hs ho h1
  unfold refP at hres
  rw [show chkM (k, r, n, c, cnt, S, O) = y from h1] at hres
  dsimp only at hres
  by_cases hb : y ≠ 0 ∨ r = true
  · rw [if_pos hb] at hres
    obtain ⟨rfl, rfl⟩ := Prod.mk.inj hres.symm
    clear hres h1
    cases r
    · refine acalls_of_aw Try.func22 rfl rfl ?_
      refine aw_ghost 2 rfl ?_
      refine aw_ghost 2 rfl ?_
      repeat' first
        | refine st ?_
        | refine stRW [0, 1] H1 ?_
        | refine stm ?_
        | refine run_want rfl rfl ?_
        | refine run_unwant rfl rfl ?_
        | refine run_undef rfl rfl ?_
        | refine run_guard1t rfl rfl (by omega) ?_
        | refine run_guard1f rfl rfl (by omega) ?_
        | refine run_guard0t rfl rfl (by omega) ?_
        | refine run_guard0f rfl rfl (by omega) ?_
        | refine run_guard1 rfl rfl (fun h1 => ?_) (fun h1 => ?_)
        | refine run_guard0 rfl rfl (fun h1 => ?_) (fun h1 => ?_)
        | refine run_guard rfl rfl (fun h1 => ?_) (fun h1 => ?_)
        | refine run_nil ?_
        | refine aw_seq ?_
        | refine aw_region (by kernel_rfl) (Nat.le_of_ble_eq_true rfl) ?_
        | refine aw_block ?_
        | refine aw_cond_t rfl ?_
        | refine aw_cond_f rfl ?_
        | refine aw_cond_tp rfl (by omega) ?_
        | refine aw_cond_fp rfl (by omega) ?_
        | refine aw_cond1 rfl (fun h1 => ?_) (fun h1 => ?_)
        | refine aw_cond rfl (fun h1 => ?_) (fun h1 => ?_)
        | refine aw_skip ?_
        | refine aw_exit ?_
        | refine aw_ret ?_
        | refine pp_ret ?_
        | refine pp_normal ?_
      all_goals first | (refine pmw_ret _ (renumA [0, 1, 2, 3]) ?_; exact Wk.tupleL (.cons (Wk.aggL (.cons (.refl _) (.cons (.refl _) (.cons (.refl _) (.cons (.refl _) (.cons (.refl _) (.cons .nil (.cons .nil .nil)))))))) (.cons (.refl _) .nil))) | (exfalso; omega) | (exfalso; simp_all; done)
    · refine acalls_of_aw Try.func22 rfl rfl ?_
      refine aw_ghost 2 rfl ?_
      refine aw_ghost 2 rfl ?_
      repeat' first
        | refine st ?_
        | refine stRW [0, 1] H1 ?_
        | refine stm ?_
        | refine run_want rfl rfl ?_
        | refine run_unwant rfl rfl ?_
        | refine run_undef rfl rfl ?_
        | refine run_guard1t rfl rfl (by omega) ?_
        | refine run_guard1f rfl rfl (by omega) ?_
        | refine run_guard0t rfl rfl (by omega) ?_
        | refine run_guard0f rfl rfl (by omega) ?_
        | refine run_guard1 rfl rfl (fun h1 => ?_) (fun h1 => ?_)
        | refine run_guard0 rfl rfl (fun h1 => ?_) (fun h1 => ?_)
        | refine run_guard rfl rfl (fun h1 => ?_) (fun h1 => ?_)
        | refine run_nil ?_
        | refine aw_seq ?_
        | refine aw_region (by kernel_rfl) (Nat.le_of_ble_eq_true rfl) ?_
        | refine aw_block ?_
        | refine aw_cond_t rfl ?_
        | refine aw_cond_f rfl ?_
        | refine aw_cond_tp rfl (by omega) ?_
        | refine aw_cond_fp rfl (by omega) ?_
        | refine aw_cond1 rfl (fun h1 => ?_) (fun h1 => ?_)
        | refine aw_cond rfl (fun h1 => ?_) (fun h1 => ?_)
        | refine aw_skip ?_
        | refine aw_exit ?_
        | refine aw_ret ?_
        | refine pp_ret ?_
        | refine pp_normal ?_
      all_goals first | (refine pmw_ret _ (renumA [0, 1, 2, 3]) ?_; exact Wk.tupleL (.cons (Wk.aggL (.cons (.refl _) (.cons (.refl _) (.cons (.refl _) (.cons (.refl _) (.cons (.refl _) (.cons .nil (.cons .nil .nil)))))))) (.cons (.refl _) .nil))) | (exfalso; omega) | (exfalso; simp_all; done)
  · rw [if_neg hb] at hres
    by_cases hcd : code < 1 ∨ 3 < code
    · rw [if_pos hcd] at hres
      obtain ⟨rfl, rfl⟩ := Prod.mk.inj hres.symm
      clear hres h1
      cases r
      · refine acalls_of_aw Try.func22 rfl rfl ?_
        refine aw_ghost 2 rfl ?_
        refine aw_ghost 2 rfl ?_
        repeat' first
          | refine st ?_
          | refine stRW [0, 1] H1 ?_
          | refine stm ?_
          | refine run_want rfl rfl ?_
          | refine run_unwant rfl rfl ?_
          | refine run_undef rfl rfl ?_
          | refine run_guard1t rfl rfl (by omega) ?_
          | refine run_guard1f rfl rfl (by omega) ?_
          | refine run_guard0t rfl rfl (by omega) ?_
          | refine run_guard0f rfl rfl (by omega) ?_
          | refine run_guard1 rfl rfl (fun h1 => ?_) (fun h1 => ?_)
          | refine run_guard0 rfl rfl (fun h1 => ?_) (fun h1 => ?_)
          | refine run_guard rfl rfl (fun h1 => ?_) (fun h1 => ?_)
          | refine run_nil ?_
          | refine aw_seq ?_
          | refine aw_region (by kernel_rfl) (Nat.le_of_ble_eq_true rfl) ?_
          | refine aw_block ?_
          | refine aw_cond_t rfl ?_
          | refine aw_cond_f rfl ?_
          | refine aw_cond_tp rfl (by omega) ?_
          | refine aw_cond_fp rfl (by omega) ?_
          | refine aw_cond1 rfl (fun h1 => ?_) (fun h1 => ?_)
          | refine aw_cond rfl (fun h1 => ?_) (fun h1 => ?_)
          | refine aw_skip ?_
          | refine aw_exit ?_
          | refine aw_ret ?_
          | refine pp_ret ?_
          | refine pp_normal ?_
        all_goals first | (refine pmw_ret _ (renumA [0, 1, 2, 3]) ?_; exact Wk.tupleL (.cons (Wk.aggL (.cons (.refl _) (.cons (.refl _) (.cons (.refl _) (.cons (.refl _) (.cons (.refl _) (.cons .nil (.cons .nil .nil)))))))) (.cons (.refl _) .nil))) | (exfalso; omega) | (exfalso; simp_all; done)
      · exact absurd (.inr rfl) hb
    · rw [if_neg hcd] at hres
      obtain ⟨rfl, rfl⟩ := Prod.mk.inj hres.symm
      clear hres h1
      cases r
      · refine acalls_of_aw Try.func22 rfl rfl ?_
        refine aw_ghost 2 rfl ?_
        refine aw_ghost 2 rfl ?_
        repeat' first
          | refine st ?_
          | refine stRW [0, 1] H1 ?_
          | refine stm ?_
          | refine run_want rfl rfl ?_
          | refine run_unwant rfl rfl ?_
          | refine run_undef rfl rfl ?_
          | refine run_guard1t rfl rfl (by omega) ?_
          | refine run_guard1f rfl rfl (by omega) ?_
          | refine run_guard0t rfl rfl (by omega) ?_
          | refine run_guard0f rfl rfl (by omega) ?_
          | refine run_guard1 rfl rfl (fun h1 => ?_) (fun h1 => ?_)
          | refine run_guard0 rfl rfl (fun h1 => ?_) (fun h1 => ?_)
          | refine run_guard rfl rfl (fun h1 => ?_) (fun h1 => ?_)
          | refine run_nil ?_
          | refine aw_seq ?_
          | refine aw_region (by kernel_rfl) (Nat.le_of_ble_eq_true rfl) ?_
          | refine aw_block ?_
          | refine aw_cond_t rfl ?_
          | refine aw_cond_f rfl ?_
          | refine aw_cond_tp rfl (by omega) ?_
          | refine aw_cond_fp rfl (by omega) ?_
          | refine aw_cond1 rfl (fun h1 => ?_) (fun h1 => ?_)
          | refine aw_cond rfl (fun h1 => ?_) (fun h1 => ?_)
          | refine aw_skip ?_
          | refine aw_exit ?_
          | refine aw_ret ?_
          | refine pp_ret ?_
          | refine pp_normal ?_
        all_goals first | (refine pmw_ret _ (renumA [0, 1, 2, 3]) ?_; exact Wk.tupleL (.cons (Wk.aggL (.cons (.refl _) (.cons (.refl _) (.cons (.refl _) (.cons (.refl _) (.cons (.refl _) (.cons .nil (.cons .nil .nil)))))))) (.cons (.refl _) .nil))) | (exfalso; omega) | (exfalso; simp_all; done)
      · exact absurd (.inr rfl) hb
theorem sp_pw {L : List Sp} (h : spE L = 0) : L.Pairwise (fun p q => p.1 < q.1) := by
  rw [List.pairwise_iff_getElem]
  intro i j hi hj hij
  induction j with
  | zero => omega
  | succ j ih =>
    obtain ⟨⟨a, e, u⟩, hq⟩ : ∃ q, L[j + 1]? = some q := ⟨_, List.getElem?_eq_getElem hj⟩
    obtain ⟨_, h2⟩ := spE_at h hq
    have h2 := h2 (by omega)
    rw [Nat.add_sub_cancel, List.getD_eq_getElem?_getD, List.getElem?_eq_getElem (by omega)] at h2
    have e1 : L[j + 1] = (a, e, u) := (List.getElem?_eq_some_iff.1 hq).2
    rw [e1]
    rcases Nat.lt_or_ge i j with h3 | h3
    · exact Int.lt_trans (ih (by omega) h3) h2
    · obtain rfl : i = j := by omega
      exact h2
theorem pw_sub : ∀ (B A : List Sp), A.Pairwise (fun p q => p.1 < q.1) → B.Pairwise (fun p q => p.1 < q.1) → (∀ p ∈ A, p ∈ B) → A.Sublist B
  | [], A, _, _, h => by
    cases A with
    | nil => exact List.Sublist.slnil
    | cons a A => exact absurd (h a (List.mem_cons_self ..)) (by simp)
  | b :: B, [], _, _, _ => List.nil_sublist _
  | b :: B, a :: A, hA, hB, h => by
    rw [List.pairwise_cons] at hA hB
    by_cases hab : a = b
    · subst hab
      refine List.Sublist.cons_cons _ (pw_sub B A hA.2 hB.2 fun p hp => ?_)
      rcases List.mem_cons.1 (h p (List.mem_cons_of_mem _ hp)) with rfl | h1
      · have := hA.1 _ hp; omega
      · exact h1
    · refine List.Sublist.cons _ (pw_sub B (a :: A) (List.pairwise_cons.2 hA) hB.2 fun p hp => ?_)
      have ha : a ∈ B := by
        rcases List.mem_cons.1 (h a (List.mem_cons_self ..)) with h1 | h1
        · exact absurd h1 hab
        · exact h1
      rcases List.mem_cons.1 (h p hp) with rfl | h1
      · have h2 := hB.1 a ha
        rcases List.mem_cons.1 hp with rfl | hp
        · omega
        · have := hA.1 _ hp; omega
      · exact h1
theorem am_eq {A B : List Sp} (hA : spE A = 0) (hB : spE B = 0) : decide (A = B) = (decide (A.length = B.length) && amB A B) := by
  by_cases h : A = B
  · subst h
    simp [amB]
  · rw [decide_eq_false h]
    symm
    rw [Bool.and_eq_false_iff]
    by_cases hl : A.length = B.length
    · right
      exact decide_eq_false fun h2 => h ((pw_sub B A (sp_pw hA) (sp_pw hB) h2).eq_of_length hl)
    · left
      exact decide_eq_false hl
/-- Both say the same of a response. -/
theorem ans_same (m m' : MsgT) : ansB m m' = rnsB m m' := by
  obtain ⟨k, r, n, c, cnt, S, O⟩ := m
  obtain ⟨k', r', n', c', cnt', S', O'⟩ := m'
  unfold ansB rnsB
  by_cases h1 : chkM (k, r, n, c, cnt, S, O) = 0
  · by_cases h2 : chkM (k', r', n', c', cnt', S', O') = 0
    · obtain ⟨_, _, _, _, _, ⟨_, g6⟩, _⟩ := chk_zero h1
      obtain ⟨f1, _, _, _, _, ⟨_, f6⟩, f7⟩ := chk_zero h2
      cases r'
      · simp
      by_cases hk : k = k'
      · subst hk
        by_cases hc : c' = 0
        · subst hc
          have e : ansK k cnt cnt' S O S' O' = ansR k cnt cnt' S O S' O' := by
            unfold ansK ansR
            simp only [flw, if_true, decide_eq_true_eq, flwR] at f7
            by_cases k1 : k = 1
            · have ho : O' = [] := List.eq_nil_of_length_eq_zero (by omega)
              subst ho
              rw [if_pos k1, if_pos (.inl k1)]
              simp [amB]
            · rw [if_neg k1]
              by_cases k3 : k = 3
              · rw [if_pos k3, if_pos (.inr k3)]
              · rw [if_neg k3, if_neg (show ¬ (k = 1 ∨ k = 3) by omega)]
                by_cases k2 : k = 2
                · rw [if_pos k2, if_pos k2]
                  exact am_eq f6 g6
                · rw [if_neg k2, if_neg k2]
          dsimp only
          rw [e]
        · simp [hc]
      · simp [hk]
    · simp [h2]
  · simp [h1]
end Go.Proofs.Ytjamfmnlhiolkaa
