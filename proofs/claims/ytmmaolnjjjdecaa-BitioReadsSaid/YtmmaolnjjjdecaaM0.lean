/- BitioReads: a round, unsigned, signed, or a flag. -/
import Derived.Test.YtmmaolnjjjdecaaLA
import Derived.Test.YtmmaolnjjjdecaaD11
import Derived.Test.YtmmaolnjjjdecaaD10
import Derived.Test.YtmmaolnjjjdecaaV23
set_option linter.unusedVariables false
set_option linter.unusedSimpArgs false
namespace Go.Proofs.Ytmmaolnjjjdecaa
open Go Av
set_option maxRecDepth 20000
structure R1g where
  i : Nat
  a : Nat
  e : Int
  d2 : ByteArray
  a2 : Int
theorem rr_ex (d : ByteArray) (a : Nat) (e : Int) : ∃ d2 a2, RR d a e d2 a2 := by
  by_cases he : e = 0
  · exact ⟨d, a, fun _ => ⟨rfl, rfl⟩, fun h => absurd he h⟩
  · exact ⟨⟨#[]⟩, 0, fun h => absurd h he, fun _ => ⟨rfl, rfl⟩⟩
set_option maxHeartbeats 8000000 in
theorem rd_round0 {Q : Exit → Slots → Mem → Prop} (d d2 : ByteArray) (l : List Fd) (N i a : Nat) (e a2 q w x : Int) (t : ByteArray) (u : Unit) (hN : l.length = N) (f1 : N ≤ 40) (hd : d.size ≤ 300) (hi : i < N) (ha : a ≤ 8 * d.size) (hrr : RR d a e d2 a2) (hq : l[i]? = some (q, w, x, t, u)) (r1 : -9223372036854775808 ≤ q ∧ q ≤ 9223372036854775807) (r2 : -9223372036854775808 ≤ w ∧ w ≤ 9223372036854775807) (r3 : -9223372036854775808 ≤ x ∧ x ≤ 9223372036854775807) (h0 : q = 0) : AW Try.prog Try.f7.ntmps 1 (loopAt Try.f7 0) (ThenA (fun σ1 m1 => ∃ y : R1g, Fits 1 ([(5, .pointer (some ⟨1, 0, none⟩)), (6, .pointer (some ⟨2, 0, none⟩)), (27, .slice (some ⟨0, 0, none⟩) N N), (28, .int .i64 N), (29, .int .i64 y.i)]) ([some ⟨l.flatMap fdC, false, 4⟩, some ⟨[.string d, .int .i64 (y.a : Int), .int .i64 y.e], true, 1⟩, some ⟨[.string y.d2, .int .i64 y.a2, .int .i64 y.e], true, 1⟩]) σ1 m1 ∧ (y.i ≤ N ∧ y.a ≤ 8 * d.size ∧ RR d y.a y.e y.d2 y.a2) ∧ N - y.i < N - i) Q) ([(5, .pointer (some ⟨1, 0, none⟩)), (6, .pointer (some ⟨2, 0, none⟩)), (27, .slice (some ⟨0, 0, none⟩) N N), (28, .int .i64 N), (29, .int .i64 i)]) ([some ⟨l.flatMap fdC, false, 4⟩, some ⟨[.string d, .int .i64 (a : Int), .int .i64 e], true, 1⟩, some ⟨[.string d2, .int .i64 a2, .int .i64 e], true, 1⟩]) := by
  obtain ⟨v, a1, e1, hf⟩ : ∃ v a1 e1, unsR d a e w = (v, a1, e1) := ⟨_, _, _, rfl⟩
  have hst : rdF d a e q w x t = ((w, v, ⟨#[]⟩), a1, e1) := by
    unfold rdF
    rw [if_pos h0, hf]
  have hle := rdF_le hst ha
  obtain ⟨d2', a2', hrr'⟩ := rr_ex d a1 e1
  have HX := ac_read q w x t _ _ _ e e1 a a1 d hst ha (by omega) r2
  have HY := ac_runsR w e e1 v a a1 d d2 d2' a2 a2' hf hrr hrr' ha (by omega) r2
  obtain ⟨c, hc⟩ : ∃ c, closeR d a1 e1 = c := ⟨_, rfl⟩
  have H3 := ac_closeR e1 c a1 d hc hle (by omega)
  have H4 := ac_rcloseR e1 c a1 d d2' a2' hc hrr' hle (by omega)
  have H5 := ac_err a1 e1 d
  have H6 := ac_rrerr a2' e1 d2'
  have hrk := hrr'
  by_cases he : e1 = 0
  · subst he
    obtain ⟨rfl, rfl⟩ := hrk.1 rfl
    have H1 := ac_left a1 d2' (by omega) (by omega)
    have H2 := ac_rrleft a1 0 d2' (by omega) (by omega)
    repeat' first
      | refine st (h := ok_load_rowsE (f := fdC) (cs := [.int .i64 q, .int .i64 w, .int .i64 x, .string t]) i (fun _ => rfl) hq rfl rfl rfl rfl (by omega)) ?_
      | refine st (h := by apply ok_agg_neqF; rfl; rfl; (focus ((repeat (first | apply EqFs.nil | (apply EqFs.cons; (first | exact PartR.one Ty.eq rfl (by ((repeat constructor); done)) | exact PartR.agg Ty.eq rfl inferInstance (by ((repeat constructor); done))); (first | exact PartR.one Ty.eq rfl (by ((repeat constructor); done)) | exact PartR.agg Ty.eq rfl inferInstance (by ((repeat constructor); done))); (first | exact Or.inl (Eq0.int Ty.eq) | exact Or.inl (Eq0.bool Ty.eq) | exact Or.inl (Eq0.string Ty.eq))))); done)); simp) ?_
      | refine st ?_
      | refine stMW [1] HX ?_
      | refine stMW [2] HY ?_
      | refine stRW [1] H1 ?_
      | refine stRW [2] H2 ?_
      | refine stRW [1] H3 ?_
      | refine stRW [2] H4 ?_
      | refine stRW [1] H5 ?_
      | refine stRW [2] H6 ?_
      | refine stm ?_
      | refine run_want rfl rfl ?_
      | refine run_unwant rfl rfl ?_
      | refine run_undef rfl rfl ?_
      | refine run_guard1t rfl rfl (by omega) ?_
      | refine run_guard1f rfl rfl (by omega) ?_
      | refine run_guard0t rfl rfl (by omega) ?_
      | refine run_guard0f rfl rfl (by omega) ?_
      | refine run_guard1 rfl rfl (fun h1 => ?_) (fun h1 => ?_)
      | refine run_guard0 rfl rfl (fun h1 => ?_) (fun h1 => ?_)
      | refine run_guard rfl rfl (fun h1 => ?_) (fun h1 => ?_)
      | refine run_nil ?_
      | refine aw_seq ?_
      | refine aw_region (by kernel_rfl) (Nat.le_of_ble_eq_true rfl) ?_
      | refine aw_block ?_
      | refine aw_cond_t rfl ?_
      | refine aw_cond_f rfl ?_
      | refine aw_cond_tp rfl (by omega) ?_
      | refine aw_cond_fp rfl (by omega) ?_
      | refine aw_cond1 rfl (fun h1 => ?_) (fun h1 => ?_)
      | refine aw_cond rfl (fun h1 => ?_) (fun h1 => ?_)
      | refine aw_skip ?_
      | refine aw_exit ?_
      | refine aw_ret ?_
      | refine pp_ret ?_
      | refine pp_normal ?_
    all_goals first | exact Exists.intro ⟨i + 1, a1, 0, _, _⟩ ⟨fitsD [0, 1, 2], ⟨hi, hle, hrr'⟩, by dsimp only; omega⟩ | (exfalso; omega)
  · obtain ⟨rfl, rfl⟩ := hrk.2 he
    have H1 := ac_left0 a1 e1 d he
    have H2 := ac_rrleft 0 e1 ⟨#[]⟩ (by decide) (by decide)
    repeat' first
      | refine st (h := ok_load_rowsE (f := fdC) (cs := [.int .i64 q, .int .i64 w, .int .i64 x, .string t]) i (fun _ => rfl) hq rfl rfl rfl rfl (by omega)) ?_
      | refine st (h := by apply ok_agg_neqF; rfl; rfl; (focus ((repeat (first | apply EqFs.nil | (apply EqFs.cons; (first | exact PartR.one Ty.eq rfl (by ((repeat constructor); done)) | exact PartR.agg Ty.eq rfl inferInstance (by ((repeat constructor); done))); (first | exact PartR.one Ty.eq rfl (by ((repeat constructor); done)) | exact PartR.agg Ty.eq rfl inferInstance (by ((repeat constructor); done))); (first | exact Or.inl (Eq0.int Ty.eq) | exact Or.inl (Eq0.bool Ty.eq) | exact Or.inl (Eq0.string Ty.eq))))); done)); simp) ?_
      | refine st ?_
      | refine stMW [1] HX ?_
      | refine stMW [2] HY ?_
      | refine stRW [1] H1 ?_
      | refine stRW [2] H2 ?_
      | refine stRW [1] H3 ?_
      | refine stRW [2] H4 ?_
      | refine stRW [1] H5 ?_
      | refine stRW [2] H6 ?_
      | refine stm ?_
      | refine run_want rfl rfl ?_
      | refine run_unwant rfl rfl ?_
      | refine run_undef rfl rfl ?_
      | refine run_guard1t rfl rfl (by omega) ?_
      | refine run_guard1f rfl rfl (by omega) ?_
      | refine run_guard0t rfl rfl (by omega) ?_
      | refine run_guard0f rfl rfl (by omega) ?_
      | refine run_guard1 rfl rfl (fun h1 => ?_) (fun h1 => ?_)
      | refine run_guard0 rfl rfl (fun h1 => ?_) (fun h1 => ?_)
      | refine run_guard rfl rfl (fun h1 => ?_) (fun h1 => ?_)
      | refine run_nil ?_
      | refine aw_seq ?_
      | refine aw_region (by kernel_rfl) (Nat.le_of_ble_eq_true rfl) ?_
      | refine aw_block ?_
      | refine aw_cond_t rfl ?_
      | refine aw_cond_f rfl ?_
      | refine aw_cond_tp rfl (by omega) ?_
      | refine aw_cond_fp rfl (by omega) ?_
      | refine aw_cond1 rfl (fun h1 => ?_) (fun h1 => ?_)
      | refine aw_cond rfl (fun h1 => ?_) (fun h1 => ?_)
      | refine aw_skip ?_
      | refine aw_exit ?_
      | refine aw_ret ?_
      | refine pp_ret ?_
      | refine pp_normal ?_
    all_goals first | exact Exists.intro ⟨i + 1, a1, e1, _, _⟩ ⟨fitsD [0, 1, 2], ⟨hi, hle, hrr'⟩, by dsimp only; omega⟩ | (exfalso; omega)
set_option maxHeartbeats 8000000 in
theorem rd_round1 {Q : Exit → Slots → Mem → Prop} (d d2 : ByteArray) (l : List Fd) (N i a : Nat) (e a2 q w x : Int) (t : ByteArray) (u : Unit) (hN : l.length = N) (f1 : N ≤ 40) (hd : d.size ≤ 300) (hi : i < N) (ha : a ≤ 8 * d.size) (hrr : RR d a e d2 a2) (hq : l[i]? = some (q, w, x, t, u)) (r1 : -9223372036854775808 ≤ q ∧ q ≤ 9223372036854775807) (r2 : -9223372036854775808 ≤ w ∧ w ≤ 9223372036854775807) (r3 : -9223372036854775808 ≤ x ∧ x ≤ 9223372036854775807) (h1 : q = 1) : AW Try.prog Try.f7.ntmps 1 (loopAt Try.f7 0) (ThenA (fun σ1 m1 => ∃ y : R1g, Fits 1 ([(5, .pointer (some ⟨1, 0, none⟩)), (6, .pointer (some ⟨2, 0, none⟩)), (27, .slice (some ⟨0, 0, none⟩) N N), (28, .int .i64 N), (29, .int .i64 y.i)]) ([some ⟨l.flatMap fdC, false, 4⟩, some ⟨[.string d, .int .i64 (y.a : Int), .int .i64 y.e], true, 1⟩, some ⟨[.string y.d2, .int .i64 y.a2, .int .i64 y.e], true, 1⟩]) σ1 m1 ∧ (y.i ≤ N ∧ y.a ≤ 8 * d.size ∧ RR d y.a y.e y.d2 y.a2) ∧ N - y.i < N - i) Q) ([(5, .pointer (some ⟨1, 0, none⟩)), (6, .pointer (some ⟨2, 0, none⟩)), (27, .slice (some ⟨0, 0, none⟩) N N), (28, .int .i64 N), (29, .int .i64 i)]) ([some ⟨l.flatMap fdC, false, 4⟩, some ⟨[.string d, .int .i64 (a : Int), .int .i64 e], true, 1⟩, some ⟨[.string d2, .int .i64 a2, .int .i64 e], true, 1⟩]) := by
  have g0 : ¬ q = 0 := by omega
  obtain ⟨v, a1, e1, hf⟩ : ∃ v a1 e1, sgnR d a e w = (v, a1, e1) := ⟨_, _, _, rfl⟩
  have hst : rdF d a e q w x t = ((w, v, ⟨#[]⟩), a1, e1) := by
    unfold rdF
    rw [if_neg g0, if_pos h1, hf]
  have hle := rdF_le hst ha
  obtain ⟨d2', a2', hrr'⟩ := rr_ex d a1 e1
  have HX := ac_read q w x t _ _ _ e e1 a a1 d hst ha (by omega) r2
  have HY := ac_rsgnR w e e1 v a a1 d d2 d2' a2 a2' hf hrr hrr' ha (by omega) r2
  obtain ⟨c, hc⟩ : ∃ c, closeR d a1 e1 = c := ⟨_, rfl⟩
  have H3 := ac_closeR e1 c a1 d hc hle (by omega)
  have H4 := ac_rcloseR e1 c a1 d d2' a2' hc hrr' hle (by omega)
  have H5 := ac_err a1 e1 d
  have H6 := ac_rrerr a2' e1 d2'
  have hrk := hrr'
  by_cases he : e1 = 0
  · subst he
    obtain ⟨rfl, rfl⟩ := hrk.1 rfl
    have H1 := ac_left a1 d2' (by omega) (by omega)
    have H2 := ac_rrleft a1 0 d2' (by omega) (by omega)
    repeat' first
      | refine st (h := ok_load_rowsE (f := fdC) (cs := [.int .i64 q, .int .i64 w, .int .i64 x, .string t]) i (fun _ => rfl) hq rfl rfl rfl rfl (by omega)) ?_
      | refine st (h := by apply ok_agg_neqF; rfl; rfl; (focus ((repeat (first | apply EqFs.nil | (apply EqFs.cons; (first | exact PartR.one Ty.eq rfl (by ((repeat constructor); done)) | exact PartR.agg Ty.eq rfl inferInstance (by ((repeat constructor); done))); (first | exact PartR.one Ty.eq rfl (by ((repeat constructor); done)) | exact PartR.agg Ty.eq rfl inferInstance (by ((repeat constructor); done))); (first | exact Or.inl (Eq0.int Ty.eq) | exact Or.inl (Eq0.bool Ty.eq) | exact Or.inl (Eq0.string Ty.eq))))); done)); simp) ?_
      | refine st ?_
      | refine stMW [1] HX ?_
      | refine stMW [2] HY ?_
      | refine stRW [1] H1 ?_
      | refine stRW [2] H2 ?_
      | refine stRW [1] H3 ?_
      | refine stRW [2] H4 ?_
      | refine stRW [1] H5 ?_
      | refine stRW [2] H6 ?_
      | refine stm ?_
      | refine run_want rfl rfl ?_
      | refine run_unwant rfl rfl ?_
      | refine run_undef rfl rfl ?_
      | refine run_guard1t rfl rfl (by omega) ?_
      | refine run_guard1f rfl rfl (by omega) ?_
      | refine run_guard0t rfl rfl (by omega) ?_
      | refine run_guard0f rfl rfl (by omega) ?_
      | refine run_guard1 rfl rfl (fun h1 => ?_) (fun h1 => ?_)
      | refine run_guard0 rfl rfl (fun h1 => ?_) (fun h1 => ?_)
      | refine run_guard rfl rfl (fun h1 => ?_) (fun h1 => ?_)
      | refine run_nil ?_
      | refine aw_seq ?_
      | refine aw_region (by kernel_rfl) (Nat.le_of_ble_eq_true rfl) ?_
      | refine aw_block ?_
      | refine aw_cond_t rfl ?_
      | refine aw_cond_f rfl ?_
      | refine aw_cond_tp rfl (by omega) ?_
      | refine aw_cond_fp rfl (by omega) ?_
      | refine aw_cond1 rfl (fun h1 => ?_) (fun h1 => ?_)
      | refine aw_cond rfl (fun h1 => ?_) (fun h1 => ?_)
      | refine aw_skip ?_
      | refine aw_exit ?_
      | refine aw_ret ?_
      | refine pp_ret ?_
      | refine pp_normal ?_
    all_goals first | exact Exists.intro ⟨i + 1, a1, 0, _, _⟩ ⟨fitsD [0, 1, 2], ⟨hi, hle, hrr'⟩, by dsimp only; omega⟩ | (exfalso; omega)
  · obtain ⟨rfl, rfl⟩ := hrk.2 he
    have H1 := ac_left0 a1 e1 d he
    have H2 := ac_rrleft 0 e1 ⟨#[]⟩ (by decide) (by decide)
    repeat' first
      | refine st (h := ok_load_rowsE (f := fdC) (cs := [.int .i64 q, .int .i64 w, .int .i64 x, .string t]) i (fun _ => rfl) hq rfl rfl rfl rfl (by omega)) ?_
      | refine st (h := by apply ok_agg_neqF; rfl; rfl; (focus ((repeat (first | apply EqFs.nil | (apply EqFs.cons; (first | exact PartR.one Ty.eq rfl (by ((repeat constructor); done)) | exact PartR.agg Ty.eq rfl inferInstance (by ((repeat constructor); done))); (first | exact PartR.one Ty.eq rfl (by ((repeat constructor); done)) | exact PartR.agg Ty.eq rfl inferInstance (by ((repeat constructor); done))); (first | exact Or.inl (Eq0.int Ty.eq) | exact Or.inl (Eq0.bool Ty.eq) | exact Or.inl (Eq0.string Ty.eq))))); done)); simp) ?_
      | refine st ?_
      | refine stMW [1] HX ?_
      | refine stMW [2] HY ?_
      | refine stRW [1] H1 ?_
      | refine stRW [2] H2 ?_
      | refine stRW [1] H3 ?_
      | refine stRW [2] H4 ?_
      | refine stRW [1] H5 ?_
      | refine stRW [2] H6 ?_
      | refine stm ?_
      | refine run_want rfl rfl ?_
      | refine run_unwant rfl rfl ?_
      | refine run_undef rfl rfl ?_
      | refine run_guard1t rfl rfl (by omega) ?_
      | refine run_guard1f rfl rfl (by omega) ?_
      | refine run_guard0t rfl rfl (by omega) ?_
      | refine run_guard0f rfl rfl (by omega) ?_
      | refine run_guard1 rfl rfl (fun h1 => ?_) (fun h1 => ?_)
      | refine run_guard0 rfl rfl (fun h1 => ?_) (fun h1 => ?_)
      | refine run_guard rfl rfl (fun h1 => ?_) (fun h1 => ?_)
      | refine run_nil ?_
      | refine aw_seq ?_
      | refine aw_region (by kernel_rfl) (Nat.le_of_ble_eq_true rfl) ?_
      | refine aw_block ?_
      | refine aw_cond_t rfl ?_
      | refine aw_cond_f rfl ?_
      | refine aw_cond_tp rfl (by omega) ?_
      | refine aw_cond_fp rfl (by omega) ?_
      | refine aw_cond1 rfl (fun h1 => ?_) (fun h1 => ?_)
      | refine aw_cond rfl (fun h1 => ?_) (fun h1 => ?_)
      | refine aw_skip ?_
      | refine aw_exit ?_
      | refine aw_ret ?_
      | refine pp_ret ?_
      | refine pp_normal ?_
    all_goals first | exact Exists.intro ⟨i + 1, a1, e1, _, _⟩ ⟨fitsD [0, 1, 2], ⟨hi, hle, hrr'⟩, by dsimp only; omega⟩ | (exfalso; omega)
set_option maxHeartbeats 8000000 in
theorem rd_round2 {Q : Exit → Slots → Mem → Prop} (d d2 : ByteArray) (l : List Fd) (N i a : Nat) (e a2 q w x : Int) (t : ByteArray) (u : Unit) (hN : l.length = N) (f1 : N ≤ 40) (hd : d.size ≤ 300) (hi : i < N) (ha : a ≤ 8 * d.size) (hrr : RR d a e d2 a2) (hq : l[i]? = some (q, w, x, t, u)) (r1 : -9223372036854775808 ≤ q ∧ q ≤ 9223372036854775807) (r2 : -9223372036854775808 ≤ w ∧ w ≤ 9223372036854775807) (r3 : -9223372036854775808 ≤ x ∧ x ≤ 9223372036854775807) (h2 : q = 2) : AW Try.prog Try.f7.ntmps 1 (loopAt Try.f7 0) (ThenA (fun σ1 m1 => ∃ y : R1g, Fits 1 ([(5, .pointer (some ⟨1, 0, none⟩)), (6, .pointer (some ⟨2, 0, none⟩)), (27, .slice (some ⟨0, 0, none⟩) N N), (28, .int .i64 N), (29, .int .i64 y.i)]) ([some ⟨l.flatMap fdC, false, 4⟩, some ⟨[.string d, .int .i64 (y.a : Int), .int .i64 y.e], true, 1⟩, some ⟨[.string y.d2, .int .i64 y.a2, .int .i64 y.e], true, 1⟩]) σ1 m1 ∧ (y.i ≤ N ∧ y.a ≤ 8 * d.size ∧ RR d y.a y.e y.d2 y.a2) ∧ N - y.i < N - i) Q) ([(5, .pointer (some ⟨1, 0, none⟩)), (6, .pointer (some ⟨2, 0, none⟩)), (27, .slice (some ⟨0, 0, none⟩) N N), (28, .int .i64 N), (29, .int .i64 i)]) ([some ⟨l.flatMap fdC, false, 4⟩, some ⟨[.string d, .int .i64 (a : Int), .int .i64 e], true, 1⟩, some ⟨[.string d2, .int .i64 a2, .int .i64 e], true, 1⟩]) := by
  have g0 : ¬ q = 0 := by omega
  have g1 : ¬ q = 1 := by omega
  obtain ⟨v, a1, e1, hf⟩ : ∃ v a1 e1, flgR d a e = (v, a1, e1) := ⟨_, _, _, rfl⟩
  have hst : rdF d a e q w x t = ((0, (if v = true then 1 else 0), ⟨#[]⟩), a1, e1) := by
    unfold rdF
    rw [if_neg g0, if_neg g1, if_pos h2, hf]
  have hle := rdF_le hst ha
  obtain ⟨d2', a2', hrr'⟩ := rr_ex d a1 e1
  have HX := ac_read q w x t _ _ _ e e1 a a1 d hst ha (by omega) r2
  have HY := ac_rflgR e e1 v a a1 d d2 d2' a2 a2' hf hrr hrr' ha (by omega) 
  obtain ⟨c, hc⟩ : ∃ c, closeR d a1 e1 = c := ⟨_, rfl⟩
  have H3 := ac_closeR e1 c a1 d hc hle (by omega)
  have H4 := ac_rcloseR e1 c a1 d d2' a2' hc hrr' hle (by omega)
  have H5 := ac_err a1 e1 d
  have H6 := ac_rrerr a2' e1 d2'
  have hrk := hrr'
  by_cases he : e1 = 0
  · subst he
    obtain ⟨rfl, rfl⟩ := hrk.1 rfl
    have H1 := ac_left a1 d2' (by omega) (by omega)
    have H2 := ac_rrleft a1 0 d2' (by omega) (by omega)
    cases v
    · skip
      repeat' first
        | refine st (h := ok_load_rowsE (f := fdC) (cs := [.int .i64 q, .int .i64 w, .int .i64 x, .string t]) i (fun _ => rfl) hq rfl rfl rfl rfl (by omega)) ?_
        | refine st (h := by apply ok_agg_neqF; rfl; rfl; (focus ((repeat (first | apply EqFs.nil | (apply EqFs.cons; (first | exact PartR.one Ty.eq rfl (by ((repeat constructor); done)) | exact PartR.agg Ty.eq rfl inferInstance (by ((repeat constructor); done))); (first | exact PartR.one Ty.eq rfl (by ((repeat constructor); done)) | exact PartR.agg Ty.eq rfl inferInstance (by ((repeat constructor); done))); (first | exact Or.inl (Eq0.int Ty.eq) | exact Or.inl (Eq0.bool Ty.eq) | exact Or.inl (Eq0.string Ty.eq))))); done)); simp) ?_
        | refine st ?_
        | refine stMW [1] HX ?_
        | refine stMW [2] HY ?_
        | refine stRW [1] H1 ?_
        | refine stRW [2] H2 ?_
        | refine stRW [1] H3 ?_
        | refine stRW [2] H4 ?_
        | refine stRW [1] H5 ?_
        | refine stRW [2] H6 ?_
        | refine stm ?_
        | refine run_want rfl rfl ?_
        | refine run_unwant rfl rfl ?_
        | refine run_undef rfl rfl ?_
        | refine run_guard1t rfl rfl (by omega) ?_
        | refine run_guard1f rfl rfl (by omega) ?_
        | refine run_guard0t rfl rfl (by omega) ?_
        | refine run_guard0f rfl rfl (by omega) ?_
        | refine run_guard1 rfl rfl (fun h1 => ?_) (fun h1 => ?_)
        | refine run_guard0 rfl rfl (fun h1 => ?_) (fun h1 => ?_)
        | refine run_guard rfl rfl (fun h1 => ?_) (fun h1 => ?_)
        | refine run_nil ?_
        | refine aw_seq ?_
        | refine aw_region (by kernel_rfl) (Nat.le_of_ble_eq_true rfl) ?_
        | refine aw_block ?_
        | refine aw_cond_t rfl ?_
        | refine aw_cond_f rfl ?_
        | refine aw_cond_tp rfl (by omega) ?_
        | refine aw_cond_fp rfl (by omega) ?_
        | refine aw_cond1 rfl (fun h1 => ?_) (fun h1 => ?_)
        | refine aw_cond rfl (fun h1 => ?_) (fun h1 => ?_)
        | refine aw_skip ?_
        | refine aw_exit ?_
        | refine aw_ret ?_
        | refine pp_ret ?_
        | refine pp_normal ?_
      all_goals first | exact Exists.intro ⟨i + 1, a1, 0, _, _⟩ ⟨fitsD [0, 1, 2], ⟨hi, hle, hrr'⟩, by dsimp only; omega⟩ | (exfalso; omega)
    · skip
      repeat' first
        | refine st (h := ok_load_rowsE (f := fdC) (cs := [.int .i64 q, .int .i64 w, .int .i64 x, .string t]) i (fun _ => rfl) hq rfl rfl rfl rfl (by omega)) ?_
        | refine st (h := by apply ok_agg_neqF; rfl; rfl; (focus ((repeat (first | apply EqFs.nil | (apply EqFs.cons; (first | exact PartR.one Ty.eq rfl (by ((repeat constructor); done)) | exact PartR.agg Ty.eq rfl inferInstance (by ((repeat constructor); done))); (first | exact PartR.one Ty.eq rfl (by ((repeat constructor); done)) | exact PartR.agg Ty.eq rfl inferInstance (by ((repeat constructor); done))); (first | exact Or.inl (Eq0.int Ty.eq) | exact Or.inl (Eq0.bool Ty.eq) | exact Or.inl (Eq0.string Ty.eq))))); done)); simp) ?_
        | refine st ?_
        | refine stMW [1] HX ?_
        | refine stMW [2] HY ?_
        | refine stRW [1] H1 ?_
        | refine stRW [2] H2 ?_
        | refine stRW [1] H3 ?_
        | refine stRW [2] H4 ?_
        | refine stRW [1] H5 ?_
        | refine stRW [2] H6 ?_
        | refine stm ?_
        | refine run_want rfl rfl ?_
        | refine run_unwant rfl rfl ?_
        | refine run_undef rfl rfl ?_
        | refine run_guard1t rfl rfl (by omega) ?_
        | refine run_guard1f rfl rfl (by omega) ?_
        | refine run_guard0t rfl rfl (by omega) ?_
        | refine run_guard0f rfl rfl (by omega) ?_
        | refine run_guard1 rfl rfl (fun h1 => ?_) (fun h1 => ?_)
        | refine run_guard0 rfl rfl (fun h1 => ?_) (fun h1 => ?_)
        | refine run_guard rfl rfl (fun h1 => ?_) (fun h1 => ?_)
        | refine run_nil ?_
        | refine aw_seq ?_
        | refine aw_region (by kernel_rfl) (Nat.le_of_ble_eq_true rfl) ?_
        | refine aw_block ?_
        | refine aw_cond_t rfl ?_
        | refine aw_cond_f rfl ?_
        | refine aw_cond_tp rfl (by omega) ?_
        | refine aw_cond_fp rfl (by omega) ?_
        | refine aw_cond1 rfl (fun h1 => ?_) (fun h1 => ?_)
        | refine aw_cond rfl (fun h1 => ?_) (fun h1 => ?_)
        | refine aw_skip ?_
        | refine aw_exit ?_
        | refine aw_ret ?_
        | refine pp_ret ?_
        | refine pp_normal ?_
      all_goals first | exact Exists.intro ⟨i + 1, a1, 0, _, _⟩ ⟨fitsD [0, 1, 2], ⟨hi, hle, hrr'⟩, by dsimp only; omega⟩ | (exfalso; omega)
  · obtain ⟨rfl, rfl⟩ := hrk.2 he
    have H1 := ac_left0 a1 e1 d he
    have H2 := ac_rrleft 0 e1 ⟨#[]⟩ (by decide) (by decide)
    cases v
    · skip
      repeat' first
        | refine st (h := ok_load_rowsE (f := fdC) (cs := [.int .i64 q, .int .i64 w, .int .i64 x, .string t]) i (fun _ => rfl) hq rfl rfl rfl rfl (by omega)) ?_
        | refine st (h := by apply ok_agg_neqF; rfl; rfl; (focus ((repeat (first | apply EqFs.nil | (apply EqFs.cons; (first | exact PartR.one Ty.eq rfl (by ((repeat constructor); done)) | exact PartR.agg Ty.eq rfl inferInstance (by ((repeat constructor); done))); (first | exact PartR.one Ty.eq rfl (by ((repeat constructor); done)) | exact PartR.agg Ty.eq rfl inferInstance (by ((repeat constructor); done))); (first | exact Or.inl (Eq0.int Ty.eq) | exact Or.inl (Eq0.bool Ty.eq) | exact Or.inl (Eq0.string Ty.eq))))); done)); simp) ?_
        | refine st ?_
        | refine stMW [1] HX ?_
        | refine stMW [2] HY ?_
        | refine stRW [1] H1 ?_
        | refine stRW [2] H2 ?_
        | refine stRW [1] H3 ?_
        | refine stRW [2] H4 ?_
        | refine stRW [1] H5 ?_
        | refine stRW [2] H6 ?_
        | refine stm ?_
        | refine run_want rfl rfl ?_
        | refine run_unwant rfl rfl ?_
        | refine run_undef rfl rfl ?_
        | refine run_guard1t rfl rfl (by omega) ?_
        | refine run_guard1f rfl rfl (by omega) ?_
        | refine run_guard0t rfl rfl (by omega) ?_
        | refine run_guard0f rfl rfl (by omega) ?_
        | refine run_guard1 rfl rfl (fun h1 => ?_) (fun h1 => ?_)
        | refine run_guard0 rfl rfl (fun h1 => ?_) (fun h1 => ?_)
        | refine run_guard rfl rfl (fun h1 => ?_) (fun h1 => ?_)
        | refine run_nil ?_
        | refine aw_seq ?_
        | refine aw_region (by kernel_rfl) (Nat.le_of_ble_eq_true rfl) ?_
        | refine aw_block ?_
        | refine aw_cond_t rfl ?_
        | refine aw_cond_f rfl ?_
        | refine aw_cond_tp rfl (by omega) ?_
        | refine aw_cond_fp rfl (by omega) ?_
        | refine aw_cond1 rfl (fun h1 => ?_) (fun h1 => ?_)
        | refine aw_cond rfl (fun h1 => ?_) (fun h1 => ?_)
        | refine aw_skip ?_
        | refine aw_exit ?_
        | refine aw_ret ?_
        | refine pp_ret ?_
        | refine pp_normal ?_
      all_goals first | exact Exists.intro ⟨i + 1, a1, e1, _, _⟩ ⟨fitsD [0, 1, 2], ⟨hi, hle, hrr'⟩, by dsimp only; omega⟩ | (exfalso; omega)
    · skip
      repeat' first
        | refine st (h := ok_load_rowsE (f := fdC) (cs := [.int .i64 q, .int .i64 w, .int .i64 x, .string t]) i (fun _ => rfl) hq rfl rfl rfl rfl (by omega)) ?_
        | refine st (h := by apply ok_agg_neqF; rfl; rfl; (focus ((repeat (first | apply EqFs.nil | (apply EqFs.cons; (first | exact PartR.one Ty.eq rfl (by ((repeat constructor); done)) | exact PartR.agg Ty.eq rfl inferInstance (by ((repeat constructor); done))); (first | exact PartR.one Ty.eq rfl (by ((repeat constructor); done)) | exact PartR.agg Ty.eq rfl inferInstance (by ((repeat constructor); done))); (first | exact Or.inl (Eq0.int Ty.eq) | exact Or.inl (Eq0.bool Ty.eq) | exact Or.inl (Eq0.string Ty.eq))))); done)); simp) ?_
        | refine st ?_
        | refine stMW [1] HX ?_
        | refine stMW [2] HY ?_
        | refine stRW [1] H1 ?_
        | refine stRW [2] H2 ?_
        | refine stRW [1] H3 ?_
        | refine stRW [2] H4 ?_
        | refine stRW [1] H5 ?_
        | refine stRW [2] H6 ?_
        | refine stm ?_
        | refine run_want rfl rfl ?_
        | refine run_unwant rfl rfl ?_
        | refine run_undef rfl rfl ?_
        | refine run_guard1t rfl rfl (by omega) ?_
        | refine run_guard1f rfl rfl (by omega) ?_
        | refine run_guard0t rfl rfl (by omega) ?_
        | refine run_guard0f rfl rfl (by omega) ?_
        | refine run_guard1 rfl rfl (fun h1 => ?_) (fun h1 => ?_)
        | refine run_guard0 rfl rfl (fun h1 => ?_) (fun h1 => ?_)
        | refine run_guard rfl rfl (fun h1 => ?_) (fun h1 => ?_)
        | refine run_nil ?_
        | refine aw_seq ?_
        | refine aw_region (by kernel_rfl) (Nat.le_of_ble_eq_true rfl) ?_
        | refine aw_block ?_
        | refine aw_cond_t rfl ?_
        | refine aw_cond_f rfl ?_
        | refine aw_cond_tp rfl (by omega) ?_
        | refine aw_cond_fp rfl (by omega) ?_
        | refine aw_cond1 rfl (fun h1 => ?_) (fun h1 => ?_)
        | refine aw_cond rfl (fun h1 => ?_) (fun h1 => ?_)
        | refine aw_skip ?_
        | refine aw_exit ?_
        | refine aw_ret ?_
        | refine pp_ret ?_
        | refine pp_normal ?_
      all_goals first | exact Exists.intro ⟨i + 1, a1, e1, _, _⟩ ⟨fitsD [0, 1, 2], ⟨hi, hle, hrr'⟩, by dsimp only; omega⟩ | (exfalso; omega)
end Go.Proofs.Ytmmaolnjjjdecaa
