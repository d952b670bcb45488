/- BitioReads: the law. -/
import Derived.Test.YtmmaolnjjjdecaaM0
set_option linter.unusedVariables false
set_option linter.unusedSimpArgs false
namespace Go.Proofs.Ytmmaolnjjjdecaa
open Go Av
set_option maxRecDepth 20000
set_option maxHeartbeats 8000000 in
theorem rd_round3 {Q : Exit → Slots → Mem → Prop} (d d2 : ByteArray) (l : List Fd) (N i a : Nat) (e a2 q w x : Int) (t : ByteArray) (u : Unit) (hN : l.length = N) (f1 : N ≤ 40) (hd : d.size ≤ 300) (hi : i < N) (ha : a ≤ 8 * d.size) (hrr : RR d a e d2 a2) (hq : l[i]? = some (q, w, x, t, u)) (r1 : -9223372036854775808 ≤ q ∧ q ≤ 9223372036854775807) (r2 : -9223372036854775808 ≤ w ∧ w ≤ 9223372036854775807) (r3 : -9223372036854775808 ≤ x ∧ x ≤ 9223372036854775807) (h3 : q = 3) : AW Try.prog Try.f7.ntmps 1 (loopAt Try.f7 0) (ThenA (fun σ1 m1 => ∃ y : R1g, Fits 1 ([(5, .pointer (some ⟨1, 0, none⟩)), (6, .pointer (some ⟨2, 0, none⟩)), (27, .slice (some ⟨0, 0, none⟩) N N), (28, .int .i64 N), (29, .int .i64 y.i)]) ([some ⟨l.flatMap fdC, false, 4⟩, some ⟨[.string d, .int .i64 (y.a : Int), .int .i64 y.e], true, 1⟩, some ⟨[.string y.d2, .int .i64 y.a2, .int .i64 y.e], true, 1⟩]) σ1 m1 ∧ (y.i ≤ N ∧ y.a ≤ 8 * d.size ∧ RR d y.a y.e y.d2 y.a2) ∧ N - y.i < N - i) Q) ([(5, .pointer (some ⟨1, 0, none⟩)), (6, .pointer (some ⟨2, 0, none⟩)), (27, .slice (some ⟨0, 0, none⟩) N N), (28, .int .i64 N), (29, .int .i64 i)]) ([some ⟨l.flatMap fdC, false, 4⟩, some ⟨[.string d, .int .i64 (a : Int), .int .i64 e], true, 1⟩, some ⟨[.string d2, .int .i64 a2, .int .i64 e], true, 1⟩]) := by
  have g0 : ¬ q = 0 := by omega
  have g1 : ¬ q = 1 := by omega
  have g2 : ¬ q = 2 := by omega
  obtain ⟨v, a1, e1, hf⟩ : ∃ v a1 e1, txtR d a e w = (v, a1, e1) := ⟨_, _, _, rfl⟩
  have hst : rdF d a e q w x t = ((w, 0, v), a1, e1) := by
    unfold rdF
    rw [if_neg g0, if_neg g1, if_neg g2, if_pos h3, hf]
  have hle := rdF_le hst ha
  obtain ⟨d2', a2', hrr'⟩ := rr_ex d a1 e1
  have HX := ac_read q w x t _ _ _ e e1 a a1 d hst ha (by omega) r2
  have HY := ac_rtxtR w e e1 v a a1 d d2 d2' a2 a2' hf hrr hrr' ha (by omega) r2
  obtain ⟨c, hc⟩ : ∃ c, closeR d a1 e1 = c := ⟨_, rfl⟩
  have H3 := ac_closeR e1 c a1 d hc hle (by omega)
  have H4 := ac_rcloseR e1 c a1 d d2' a2' hc hrr' hle (by omega)
  have H5 := ac_err a1 e1 d
  have H6 := ac_rrerr a2' e1 d2'
  have hrk := hrr'
  by_cases he : e1 = 0
  · subst he
    obtain ⟨rfl, rfl⟩ := hrk.1 rfl
    have H1 := ac_left a1 d2' (by omega) (by omega)
    have H2 := ac_rrleft a1 0 d2' (by omega) (by omega)
    repeat' first
      | refine st (h := ok_load_rowsE (f := fdC) (cs := [.int .i64 q, .int .i64 w, .int .i64 x, .string t]) i (fun _ => rfl) hq rfl rfl rfl rfl (by omega)) ?_
      | refine st (h := by apply ok_agg_neqF; rfl; rfl; (focus ((repeat (first | apply EqFs.nil | (apply EqFs.cons; (first | exact PartR.one Ty.eq rfl (by ((repeat constructor); done)) | exact PartR.agg Ty.eq rfl inferInstance (by ((repeat constructor); done))); (first | exact PartR.one Ty.eq rfl (by ((repeat constructor); done)) | exact PartR.agg Ty.eq rfl inferInstance (by ((repeat constructor); done))); (first | exact Or.inl (Eq0.int Ty.eq) | exact Or.inl (Eq0.bool Ty.eq) | exact Or.inl (Eq0.string Ty.eq))))); done)); simp) ?_
      | refine st ?_
      | refine stMW [1] HX ?_
      | refine stMW [2] HY ?_
      | refine stRW [1] H1 ?_
      | refine stRW [2] H2 ?_
      | refine stRW [1] H3 ?_
      | refine stRW [2] H4 ?_
      | refine stRW [1] H5 ?_
      | refine stRW [2] H6 ?_
      | refine stm ?_
      | refine run_want rfl rfl ?_
      | refine run_unwant rfl rfl ?_
      | refine run_undef rfl rfl ?_
      | refine run_guard1t rfl rfl (by omega) ?_
      | refine run_guard1f rfl rfl (by omega) ?_
      | refine run_guard0t rfl rfl (by omega) ?_
      | refine run_guard0f rfl rfl (by omega) ?_
      | refine run_guard1 rfl rfl (fun h1 => ?_) (fun h1 => ?_)
      | refine run_guard0 rfl rfl (fun h1 => ?_) (fun h1 => ?_)
      | refine run_guard rfl rfl (fun h1 => ?_) (fun h1 => ?_)
      | refine run_nil ?_
      | refine aw_seq ?_
      | refine aw_region (by kernel_rfl) (Nat.le_of_ble_eq_true rfl) ?_
      | refine aw_block ?_
      | refine aw_cond_t rfl ?_
      | refine aw_cond_f rfl ?_
      | refine aw_cond_tp rfl (by omega) ?_
      | refine aw_cond_fp rfl (by omega) ?_
      | refine aw_cond1 rfl (fun h1 => ?_) (fun h1 => ?_)
      | refine aw_cond rfl (fun h1 => ?_) (fun h1 => ?_)
      | refine aw_skip ?_
      | refine aw_exit ?_
      | refine aw_ret ?_
      | refine pp_ret ?_
      | refine pp_normal ?_
    all_goals first | exact Exists.intro ⟨i + 1, a1, 0, _, _⟩ ⟨fitsD [0, 1, 2], ⟨hi, hle, hrr'⟩, by dsimp only; omega⟩ | (exfalso; omega)
  · obtain ⟨rfl, rfl⟩ := hrk.2 he
    have H1 := ac_left0 a1 e1 d he
    have H2 := ac_rrleft 0 e1 ⟨#[]⟩ (by decide) (by decide)
    repeat' first
      | refine st (h := ok_load_rowsE (f := fdC) (cs := [.int .i64 q, .int .i64 w, .int .i64 x, .string t]) i (fun _ => rfl) hq rfl rfl rfl rfl (by omega)) ?_
      | refine st (h := by apply ok_agg_neqF; rfl; rfl; (focus ((repeat (first | apply EqFs.nil | (apply EqFs.cons; (first | exact PartR.one Ty.eq rfl (by ((repeat constructor); done)) | exact PartR.agg Ty.eq rfl inferInstance (by ((repeat constructor); done))); (first | exact PartR.one Ty.eq rfl (by ((repeat constructor); done)) | exact PartR.agg Ty.eq rfl inferInstance (by ((repeat constructor); done))); (first | exact Or.inl (Eq0.int Ty.eq) | exact Or.inl (Eq0.bool Ty.eq) | exact Or.inl (Eq0.string Ty.eq))))); done)); simp) ?_
      | refine st ?_
      | refine stMW [1] HX ?_
      | refine stMW [2] HY ?_
      | refine stRW [1] H1 ?_
      | refine stRW [2] H2 ?_
      | refine stRW [1] H3 ?_
      | refine stRW [2] H4 ?_
      | refine stRW [1] H5 ?_
      | refine stRW [2] H6 ?_
      | refine stm ?_
      | refine run_want rfl rfl ?_
      | refine run_unwant rfl rfl ?_
      | refine run_undef rfl rfl ?_
      | refine run_guard1t rfl rfl (by omega) ?_
      | refine run_guard1f rfl rfl (by omega) ?_
      | refine run_guard0t rfl rfl (by omega) ?_
      | refine run_guard0f rfl rfl (by omega) ?_
      | refine run_guard1 rfl rfl (fun h1 => ?_) (fun h1 => ?_)
      | refine run_guard0 rfl rfl (fun h1 => ?_) (fun h1 => ?_)
      | refine run_guard rfl rfl (fun h1 => ?_) (fun h1 => ?_)
      | refine run_nil ?_
      | refine aw_seq ?_
      | refine aw_region (by kernel_rfl) (Nat.le_of_ble_eq_true rfl) ?_
      | refine aw_block ?_
      | refine aw_cond_t rfl ?_
      | refine aw_cond_f rfl ?_
      | refine aw_cond_tp rfl (by omega) ?_
      | refine aw_cond_fp rfl (by omega) ?_
      | refine aw_cond1 rfl (fun h1 => ?_) (fun h1 => ?_)
      | refine aw_cond rfl (fun h1 => ?_) (fun h1 => ?_)
      | refine aw_skip ?_
      | refine aw_exit ?_
      | refine aw_ret ?_
      | refine pp_ret ?_
      | refine pp_normal ?_
    all_goals first | exact Exists.intro ⟨i + 1, a1, e1, _, _⟩ ⟨fitsD [0, 1, 2], ⟨hi, hle, hrr'⟩, by dsimp only; omega⟩ | (exfalso; omega)
set_option maxHeartbeats 8000000 in
theorem rd_round4 {Q : Exit → Slots → Mem → Prop} (d d2 : ByteArray) (l : List Fd) (N i a : Nat) (e a2 q w x : Int) (t : ByteArray) (u : Unit) (hN : l.length = N) (f1 : N ≤ 40) (hd : d.size ≤ 300) (hi : i < N) (ha : a ≤ 8 * d.size) (hrr : RR d a e d2 a2) (hq : l[i]? = some (q, w, x, t, u)) (r1 : -9223372036854775808 ≤ q ∧ q ≤ 9223372036854775807) (r2 : -9223372036854775808 ≤ w ∧ w ≤ 9223372036854775807) (r3 : -9223372036854775808 ≤ x ∧ x ≤ 9223372036854775807) (g0 : ¬ q = 0) (g1 : ¬ q = 1) (g2 : ¬ q = 2) (g3 : ¬ q = 3) : AW Try.prog Try.f7.ntmps 1 (loopAt Try.f7 0) (ThenA (fun σ1 m1 => ∃ y : R1g, Fits 1 ([(5, .pointer (some ⟨1, 0, none⟩)), (6, .pointer (some ⟨2, 0, none⟩)), (27, .slice (some ⟨0, 0, none⟩) N N), (28, .int .i64 N), (29, .int .i64 y.i)]) ([some ⟨l.flatMap fdC, false, 4⟩, some ⟨[.string d, .int .i64 (y.a : Int), .int .i64 y.e], true, 1⟩, some ⟨[.string y.d2, .int .i64 y.a2, .int .i64 y.e], true, 1⟩]) σ1 m1 ∧ (y.i ≤ N ∧ y.a ≤ 8 * d.size ∧ RR d y.a y.e y.d2 y.a2) ∧ N - y.i < N - i) Q) ([(5, .pointer (some ⟨1, 0, none⟩)), (6, .pointer (some ⟨2, 0, none⟩)), (27, .slice (some ⟨0, 0, none⟩) N N), (28, .int .i64 N), (29, .int .i64 i)]) ([some ⟨l.flatMap fdC, false, 4⟩, some ⟨[.string d, .int .i64 (a : Int), .int .i64 e], true, 1⟩, some ⟨[.string d2, .int .i64 a2, .int .i64 e], true, 1⟩]) := by
  have hst : rdF d a e q w x t = ((w, x, t), a, e) := by
    unfold rdF
    rw [if_neg g0, if_neg g1, if_neg g2, if_neg g3]
  have HX := ac_read q w x t _ _ _ e e a a d hst ha (by omega) r2
  have hle := ha
  obtain ⟨c, hc⟩ : ∃ c, closeR d a e = c := ⟨_, rfl⟩
  have H3 := ac_closeR e c a d hc hle (by omega)
  have H4 := ac_rcloseR e c a d d2 a2 hc hrr hle (by omega)
  have H5 := ac_err a e d
  have H6 := ac_rrerr a2 e d2
  have hrk := hrr
  by_cases he : e = 0
  · subst he
    obtain ⟨rfl, rfl⟩ := hrk.1 rfl
    have H1 := ac_left a d2 (by omega) (by omega)
    have H2 := ac_rrleft a 0 d2 (by omega) (by omega)
    repeat' first
      | refine st (h := ok_load_rowsE (f := fdC) (cs := [.int .i64 q, .int .i64 w, .int .i64 x, .string t]) i (fun _ => rfl) hq rfl rfl rfl rfl (by omega)) ?_
      | refine st (h := by apply ok_agg_neqF; rfl; rfl; (focus ((repeat (first | apply EqFs.nil | (apply EqFs.cons; (first | exact PartR.one Ty.eq rfl (by ((repeat constructor); done)) | exact PartR.agg Ty.eq rfl inferInstance (by ((repeat constructor); done))); (first | exact PartR.one Ty.eq rfl (by ((repeat constructor); done)) | exact PartR.agg Ty.eq rfl inferInstance (by ((repeat constructor); done))); (first | exact Or.inl (Eq0.int Ty.eq) | exact Or.inl (Eq0.bool Ty.eq) | exact Or.inl (Eq0.string Ty.eq))))); done)); simp) ?_
      | refine st ?_
      | refine stMW [1] HX ?_
      | refine stRW [1] H1 ?_
      | refine stRW [2] H2 ?_
      | refine stRW [1] H3 ?_
      | refine stRW [2] H4 ?_
      | refine stRW [1] H5 ?_
      | refine stRW [2] H6 ?_
      | refine stm ?_
      | refine run_want rfl rfl ?_
      | refine run_unwant rfl rfl ?_
      | refine run_undef rfl rfl ?_
      | refine run_guard1t rfl rfl (by omega) ?_
      | refine run_guard1f rfl rfl (by omega) ?_
      | refine run_guard0t rfl rfl (by omega) ?_
      | refine run_guard0f rfl rfl (by omega) ?_
      | refine run_guard1 rfl rfl (fun h1 => ?_) (fun h1 => ?_)
      | refine run_guard0 rfl rfl (fun h1 => ?_) (fun h1 => ?_)
      | refine run_guard rfl rfl (fun h1 => ?_) (fun h1 => ?_)
      | refine run_nil ?_
      | refine aw_seq ?_
      | refine aw_region (by kernel_rfl) (Nat.le_of_ble_eq_true rfl) ?_
      | refine aw_block ?_
      | refine aw_cond_t rfl ?_
      | refine aw_cond_f rfl ?_
      | refine aw_cond_tp rfl (by omega) ?_
      | refine aw_cond_fp rfl (by omega) ?_
      | refine aw_cond1 rfl (fun h1 => ?_) (fun h1 => ?_)
      | refine aw_cond rfl (fun h1 => ?_) (fun h1 => ?_)
      | refine aw_skip ?_
      | refine aw_exit ?_
      | refine aw_ret ?_
      | refine pp_ret ?_
      | refine pp_normal ?_
    all_goals first | exact Exists.intro ⟨i + 1, a, 0, _, _⟩ ⟨fitsD [0, 1, 2], ⟨hi, hle, hrr⟩, by dsimp only; omega⟩ | (exfalso; omega)
  · obtain ⟨rfl, rfl⟩ := hrk.2 he
    have H1 := ac_left0 a e d he
    have H2 := ac_rrleft 0 e ⟨#[]⟩ (by decide) (by decide)
    repeat' first
      | refine st (h := ok_load_rowsE (f := fdC) (cs := [.int .i64 q, .int .i64 w, .int .i64 x, .string t]) i (fun _ => rfl) hq rfl rfl rfl rfl (by omega)) ?_
      | refine st (h := by apply ok_agg_neqF; rfl; rfl; (focus ((repeat (first | apply EqFs.nil | (apply EqFs.cons; (first | exact PartR.one Ty.eq rfl (by ((repeat constructor); done)) | exact PartR.agg Ty.eq rfl inferInstance (by ((repeat constructor); done))); (first | exact PartR.one Ty.eq rfl (by ((repeat constructor); done)) | exact PartR.agg Ty.eq rfl inferInstance (by ((repeat constructor); done))); (first | exact Or.inl (Eq0.int Ty.eq) | exact Or.inl (Eq0.bool Ty.eq) | exact Or.inl (Eq0.string Ty.eq))))); done)); simp) ?_
      | refine st ?_
      | refine stMW [1] HX ?_
      | refine stRW [1] H1 ?_
      | refine stRW [2] H2 ?_
      | refine stRW [1] H3 ?_
      | refine stRW [2] H4 ?_
      | refine stRW [1] H5 ?_
      | refine stRW [2] H6 ?_
      | refine stm ?_
      | refine run_want rfl rfl ?_
      | refine run_unwant rfl rfl ?_
      | refine run_undef rfl rfl ?_
      | refine run_guard1t rfl rfl (by omega) ?_
      | refine run_guard1f rfl rfl (by omega) ?_
      | refine run_guard0t rfl rfl (by omega) ?_
      | refine run_guard0f rfl rfl (by omega) ?_
      | refine run_guard1 rfl rfl (fun h1 => ?_) (fun h1 => ?_)
      | refine run_guard0 rfl rfl (fun h1 => ?_) (fun h1 => ?_)
      | refine run_guard rfl rfl (fun h1 => ?_) (fun h1 => ?_)
      | refine run_nil ?_
      | refine aw_seq ?_
      | refine aw_region (by kernel_rfl) (Nat.le_of_ble_eq_true rfl) ?_
      | refine aw_block ?_
      | refine aw_cond_t rfl ?_
      | refine aw_cond_f rfl ?_
      | refine aw_cond_tp rfl (by omega) ?_
      | refine aw_cond_fp rfl (by omega) ?_
      | refine aw_cond1 rfl (fun h1 => ?_) (fun h1 => ?_)
      | refine aw_cond rfl (fun h1 => ?_) (fun h1 => ?_)
      | refine aw_skip ?_
      | refine aw_exit ?_
      | refine aw_ret ?_
      | refine pp_ret ?_
      | refine pp_normal ?_
    all_goals first | exact Exists.intro ⟨i + 1, a, e, _, _⟩ ⟨fitsD [0, 1, 2], ⟨hi, hle, hrr⟩, by dsimp only; omega⟩ | (exfalso; omega)
set_option maxHeartbeats 8000000 in
theorem law_reads (d : ByteArray) (l : List Fd) (hr : ∀ f ∈ l, FdR f) : ACalls Try.prog 7 [.string d, .slice (some ⟨0, 0, none⟩) l.length l.length] [some ⟨l.flatMap fdC, false, 4⟩] (.bool true) [none] := by
  have hF := ac_few l
  obtain ⟨N, hN⟩ : ∃ N, l.length = N := ⟨_, rfl⟩
  by_cases hf : d.size ≤ 300 ∧ fewB l = true
  · obtain ⟨hd, hf⟩ := hf
    rw [hf] at hF
    obtain ⟨f1, f2⟩ := fewB_len hf
    rw [hN] at hF f1 ⊢
    have h0 := ac_newR d (by omega)
    have h1 := ac_rrnew d (by omega)
    refine acalls_law Try.func7 rfl rfl rfl ?_
    repeat' first
      | refine st ?_
      | refine st_call (ac_awake) ?_
      | refine stRW [0] hF ?_
      | refine stMW [] h0 ?_
      | refine stMW [] h1 ?_
      | refine stm ?_
      | refine run_want rfl rfl ?_
      | refine run_unwant rfl rfl ?_
      | refine run_undef rfl rfl ?_
      | refine run_guard1t rfl rfl (by omega) ?_
      | refine run_guard1f rfl rfl (by omega) ?_
      | refine run_guard0t rfl rfl (by omega) ?_
      | refine run_guard0f rfl rfl (by omega) ?_
      | refine run_guard1 rfl rfl (fun h1 => ?_) (fun h1 => ?_)
      | refine run_guard0 rfl rfl (fun h1 => ?_) (fun h1 => ?_)
      | refine run_guard rfl rfl (fun h1 => ?_) (fun h1 => ?_)
      | refine run_nil ?_
      | refine aw_seq ?_
      | refine aw_region (by kernel_rfl) (Nat.le_of_ble_eq_true rfl) ?_
      | refine aw_block ?_
      | refine aw_cond_t rfl ?_
      | refine aw_cond_f rfl ?_
      | refine aw_cond_tp rfl (by omega) ?_
      | refine aw_cond_fp rfl (by omega) ?_
      | refine aw_cond1 rfl (fun h1 => ?_) (fun h1 => ?_)
      | refine aw_cond rfl (fun h1 => ?_) (fun h1 => ?_)
      | refine aw_skip ?_
      | refine aw_exit ?_
      | refine aw_ret ?_
      | refine pp_ret ?_
      | refine pp_normal ?_
    clear hF h0 h1
    refine aw_loopg (S := (fun y : R1g => [(5, .pointer (some ⟨1, 0, none⟩)), (6, .pointer (some ⟨2, 0, none⟩)), (27, .slice (some ⟨0, 0, none⟩) N N), (28, .int .i64 N), (29, .int .i64 y.i)])) (B := (fun y : R1g => [some ⟨l.flatMap fdC, false, 4⟩, some ⟨[.string d, .int .i64 (y.a : Int), .int .i64 y.e], true, 1⟩, some ⟨[.string y.d2, .int .i64 y.a2, .int .i64 y.e], true, 1⟩])) (R := (fun y : R1g => y.i ≤ N ∧ y.a ≤ 8 * d.size ∧ RR d y.a y.e y.d2 y.a2))
      (μ := fun y : R1g => N - y.i) ⟨0, 0, 0, d, 0⟩ (fitsD [0, 1, 2]) ⟨Nat.zero_le _, Nat.zero_le _, fun _ => ⟨rfl, rfl⟩, fun h => absurd rfl h⟩ ?_
    rintro ⟨i, a, e, d2, a2⟩ ⟨g1, ha, hrr⟩
    dsimp only at *
    by_cases hi : i < N
    · obtain ⟨⟨q, w, x, t, u⟩, hq⟩ : ∃ q, l[i]? = some q := ⟨_, List.getElem?_eq_getElem (by omega)⟩
      obtain ⟨r1, r2, r3⟩ := hr _ (List.mem_of_getElem? hq)
      dsimp only at r1 r2 r3
      by_cases h0 : q = 0
      · exact rd_round0 d d2 l N i a e a2 q w x t u hN f1 hd hi ha hrr hq r1 r2 r3 h0
      by_cases h1 : q = 1
      · exact rd_round1 d d2 l N i a e a2 q w x t u hN f1 hd hi ha hrr hq r1 r2 r3 h1
      by_cases h2 : q = 2
      · exact rd_round2 d d2 l N i a e a2 q w x t u hN f1 hd hi ha hrr hq r1 r2 r3 h2
      by_cases h3 : q = 3
      · exact rd_round3 d d2 l N i a e a2 q w x t u hN f1 hd hi ha hrr hq r1 r2 r3 h3
      · exact rd_round4 d d2 l N i a e a2 q w x t u hN f1 hd hi ha hrr hq r1 r2 r3 h0 h1 h2 h3
    · obtain ⟨c, hc⟩ : ∃ c, closeR d a e = c := ⟨_, rfl⟩
      have H3 := ac_closeR e c a d hc ha (by omega)
      have H4 := ac_rcloseR e c a d d2 a2 hc hrr ha (by omega)
      by_cases he : e = 0
      · subst he
        obtain ⟨rfl, rfl⟩ := hrr.1 rfl
        have H1 := ac_left a d2 (by omega) (by omega)
        have H2 := ac_rrleft a 0 d2 (by omega) (by omega)
        repeat' first
          | refine st ?_
          | refine stRW [1] H1 ?_
          | refine stRW [2] H2 ?_
          | refine stRW [1] H3 ?_
          | refine stRW [2] H4 ?_
          | refine stm ?_
          | refine run_want rfl rfl ?_
          | refine run_unwant rfl rfl ?_
          | refine run_undef rfl rfl ?_
          | refine run_guard1t rfl rfl (by omega) ?_
          | refine run_guard1f rfl rfl (by omega) ?_
          | refine run_guard0t rfl rfl (by omega) ?_
          | refine run_guard0f rfl rfl (by omega) ?_
          | refine run_guard1 rfl rfl (fun h1 => ?_) (fun h1 => ?_)
          | refine run_guard0 rfl rfl (fun h1 => ?_) (fun h1 => ?_)
          | refine run_guard rfl rfl (fun h1 => ?_) (fun h1 => ?_)
          | refine run_nil ?_
          | refine aw_seq ?_
          | refine aw_region (by kernel_rfl) (Nat.le_of_ble_eq_true rfl) ?_
          | refine aw_block ?_
          | refine aw_cond_t rfl ?_
          | refine aw_cond_f rfl ?_
          | refine aw_cond_tp rfl (by omega) ?_
          | refine aw_cond_fp rfl (by omega) ?_
          | refine aw_cond1 rfl (fun h1 => ?_) (fun h1 => ?_)
          | refine aw_cond rfl (fun h1 => ?_) (fun h1 => ?_)
          | refine aw_skip ?_
          | refine aw_exit ?_
          | refine aw_ret ?_
          | refine pp_ret ?_
          | refine pp_normal ?_
        all_goals first | rfl | simp [retOf] | (exfalso; omega)
      · obtain ⟨rfl, rfl⟩ := hrr.2 he
        have H1 := ac_left0 a e d he
        have H2 := ac_rrleft 0 e ⟨#[]⟩ (by decide) (by decide)
        repeat' first
          | refine st ?_
          | refine stRW [1] H1 ?_
          | refine stRW [2] H2 ?_
          | refine stRW [1] H3 ?_
          | refine stRW [2] H4 ?_
          | refine stm ?_
          | refine run_want rfl rfl ?_
          | refine run_unwant rfl rfl ?_
          | refine run_undef rfl rfl ?_
          | refine run_guard1t rfl rfl (by omega) ?_
          | refine run_guard1f rfl rfl (by omega) ?_
          | refine run_guard0t rfl rfl (by omega) ?_
          | refine run_guard0f rfl rfl (by omega) ?_
          | refine run_guard1 rfl rfl (fun h1 => ?_) (fun h1 => ?_)
          | refine run_guard0 rfl rfl (fun h1 => ?_) (fun h1 => ?_)
          | refine run_guard rfl rfl (fun h1 => ?_) (fun h1 => ?_)
          | refine run_nil ?_
          | refine aw_seq ?_
          | refine aw_region (by kernel_rfl) (Nat.le_of_ble_eq_true rfl) ?_
          | refine aw_block ?_
          | refine aw_cond_t rfl ?_
          | refine aw_cond_f rfl ?_
          | refine aw_cond_tp rfl (by omega) ?_
          | refine aw_cond_fp rfl (by omega) ?_
          | refine aw_cond1 rfl (fun h1 => ?_) (fun h1 => ?_)
          | refine aw_cond rfl (fun h1 => ?_) (fun h1 => ?_)
          | refine aw_skip ?_
          | refine aw_exit ?_
          | refine aw_ret ?_
          | refine pp_ret ?_
          | refine pp_normal ?_
        all_goals first | rfl | simp [retOf] | (exfalso; omega)
  · by_cases hd : d.size ≤ 300
    · have hf : fewB l = false := by rw [← Bool.not_eq_true]; exact fun h => hf ⟨hd, h⟩
      rw [hf] at hF
      rw [hN] at hF ⊢
      refine acalls_law Try.func7 rfl rfl rfl ?_
      repeat' first
        | refine st ?_
        | refine st_call (ac_awake) ?_
        | refine stRW [0] hF ?_
        | refine stm ?_
        | refine run_want rfl rfl ?_
        | refine run_unwant rfl rfl ?_
        | refine run_undef rfl rfl ?_
        | refine run_guard1t rfl rfl (by omega) ?_
        | refine run_guard1f rfl rfl (by omega) ?_
        | refine run_guard0t rfl rfl (by omega) ?_
        | refine run_guard0f rfl rfl (by omega) ?_
        | refine run_guard1 rfl rfl (fun h1 => ?_) (fun h1 => ?_)
        | refine run_guard0 rfl rfl (fun h1 => ?_) (fun h1 => ?_)
        | refine run_guard rfl rfl (fun h1 => ?_) (fun h1 => ?_)
        | refine run_nil ?_
        | refine aw_seq ?_
        | refine aw_region (by kernel_rfl) (Nat.le_of_ble_eq_true rfl) ?_
        | refine aw_block ?_
        | refine aw_cond_t rfl ?_
        | refine aw_cond_f rfl ?_
        | refine aw_cond_tp rfl (by omega) ?_
        | refine aw_cond_fp rfl (by omega) ?_
        | refine aw_cond1 rfl (fun h1 => ?_) (fun h1 => ?_)
        | refine aw_cond rfl (fun h1 => ?_) (fun h1 => ?_)
        | refine aw_skip ?_
        | refine aw_exit ?_
        | refine aw_ret ?_
        | refine pp_ret ?_
        | refine pp_normal ?_
      all_goals first | rfl | (exfalso; omega)
    · rw [hN]
      refine acalls_law Try.func7 rfl rfl rfl ?_
      repeat' first
        | refine st ?_
        | refine st_call (ac_awake) ?_
        | refine stm ?_
        | refine run_want rfl rfl ?_
        | refine run_unwant rfl rfl ?_
        | refine run_undef rfl rfl ?_
        | refine run_guard1t rfl rfl (by omega) ?_
        | refine run_guard1f rfl rfl (by omega) ?_
        | refine run_guard0t rfl rfl (by omega) ?_
        | refine run_guard0f rfl rfl (by omega) ?_
        | refine run_guard1 rfl rfl (fun h1 => ?_) (fun h1 => ?_)
        | refine run_guard0 rfl rfl (fun h1 => ?_) (fun h1 => ?_)
        | refine run_guard rfl rfl (fun h1 => ?_) (fun h1 => ?_)
        | refine run_nil ?_
        | refine aw_seq ?_
        | refine aw_region (by kernel_rfl) (Nat.le_of_ble_eq_true rfl) ?_
        | refine aw_block ?_
        | refine aw_cond_t rfl ?_
        | refine aw_cond_f rfl ?_
        | refine aw_cond_tp rfl (by omega) ?_
        | refine aw_cond_fp rfl (by omega) ?_
        | refine aw_cond1 rfl (fun h1 => ?_) (fun h1 => ?_)
        | refine aw_cond rfl (fun h1 => ?_) (fun h1 => ?_)
        | refine aw_skip ?_
        | refine aw_exit ?_
        | refine aw_ret ?_
        | refine pp_ret ?_
        | refine pp_normal ?_
      all_goals first | rfl | (exfalso; omega)
end Go.Proofs.Ytmmaolnjjjdecaa
