/- Transfer: announcements, complete stores in all cases. Transfer: Hear of what is wrong, of both. Transfer: the reference opens a page. -/
import Derived.Test.YtjofcjogbopkjaaGreatVL
import Derived.Test.YtjofcjogbopkjaaGreatR2
import Derived.Test.YtjofcjogbopkjaaGreatU5
import Derived.Test.YtjofcjogbopkjaaGreatR5
import Derived.Test.YtjofcjogbopkjaaGreatY1
import Derived.Test.YtjofcjogbopkjaaGreatU9
set_option linter.unusedVariables false
set_option linter.unusedSimpArgs false
namespace Go.Proofs.YtjofcjogbopkjaaGreat
open Go Av
set_option maxRecDepth 20000
/-- The announcement and the request of any store, or what stands in their place. -/
def anE (s : Sto) : Int := if chS s = true then (if s.ver = 0 then 14 else 0) else 1
def anX (s : Sto) : Upd := if chS s = true ∧ s.ver ≠ 0 then annU s else upd0
def asE (s : Sto) : Int := if chS s = true then (if s.ver = 0 ∨ cpB s = true then 14 else 0) else 1
def asX (s : Sto) : Upd := if chS s = true ∧ ¬ (s.ver = 0 ∨ cpB s = true) then askU s else upd0
theorem ze_ver {s : Sto} (hc : chS s = true) : zeB s = decide (s.ver = 0) := by
  rcases chS_spec hc with h | ⟨h, hv, _⟩
  · rw [h, decide_eq_true (of_decide_eq_true h).1]
  · rw [h, decide_eq_false (by omega)]
/-- A right store that knows its manifest. -/
theorem ch_pg {s : Sto} {n p : Nat} (hn : s.L.length = n) (hp : s.P.length = p) (hc : chS s = true) (hk : s.kn = true) : chkM s.mv s.ms s.mg s.mq s.L = 0 ∧ dnB s.ms s.mg s.data.size = true ∧ s.ver ≠ 0 ∧ 1 ≤ s.mg ∧
    ∃ k : Nat, dnN s.ms s.mg n s.data.size = k ∧ pgX s.ms s.mg n s.data.size = k ∧ k ≤ n ∧ n ≤ 64 ∧ (cpB s = true ↔ k = n) ∧ (k < n → opnB s.ms s.mg s.mq k s.bits s.P = true) ∧ (k = n → s.bits = 0 ∧ p = 0) := by
  have hkb : knB s = true := by rw [← ch_kn hk]; exact hc
  obtain ⟨r1, r2, r3, r4, k, r5, r6, r7, r8, r9, r10, r11, r12, r13⟩ := knB_spec hn hp hkb
  have hbd := siz_bd (chk_ok r1).1
  refine ⟨r1, r4, by omega, r11, k, r5, by unfold pgX; rw [if_pos r4, r5], r6, r10, ?_, fun h => (r9 h).2, fun h => ⟨(r8 h).2.1, (r8 h).2.2⟩⟩
  unfold cpB
  rw [hk, Bool.true_and, decide_eq_true_eq]
  constructor
  · intro h
    unfold dnN at r5
    rw [if_pos h] at r5
    omega
  · exact fun h => (r8 h).1
theorem ask_bits {b p : Nat} (h : b < 2 ^ p) : 2 ^ p - 1 - b % 2 ^ p = 2 ^ p - 1 - b := by rw [Nat.mod_eq_of_lt h]
set_option maxHeartbeats 8000000 in
theorem ac_AnnX (s : Sto) (n p : Nat) (hn : s.L.length = n) (hp : s.P.length = p) (hb : n ≤ 1000000 ∧ p ≤ 1000000) (hbits : s.bits < 18446744073709551616) (hd : s.data.size ≤ 1000000) (A : Upd) (hA : anX s = A) (E : Int) (hE : anE s = E) : ACalls Tryz.prog 12 [.agg #[.int .i64 s.ver, .string s.id, .bool s.kn, .int .i64 s.mv, .int .i64 s.ms, .int .i64 s.mg, .int .i64 s.mq, .slice (some ⟨0, 0, none⟩) n n, .string s.data, .int .u64 s.bits, .slice (some ⟨1, 0, none⟩) p p]] [some ⟨List.map Value.string s.L, false, 1⟩, some ⟨List.map Value.string s.P, false, 1⟩] (.tuple #[.agg #[.int .i64 A.kind, .int .i64 A.ver, .string A.id, .int .i64 A.page, .int .i64 A.pkt, .int .u64 A.bits, .string A.data], .int .i64 E]) [none, none] := by
  cases hc : chS s with
  | false =>
    obtain rfl : A = upd0 := by rw [← hA]; exact if_neg (fun h => by rw [hc] at h; exact absurd h.1 (by decide))
    obtain rfl : E = 1 := by rw [← hE]; exact if_neg (by rw [hc]; decide)
    have H := ac_check s n p hn hp hb hbits hd _ hc
    clear hc hA hE hbits
    obtain ⟨ver, id, kn, mv, ms, mg, mq, L, data, bits, P⟩ := s
    dsimp only at *
    refine acalls_law Tryz.func12 rfl rfl rfl ?_
    repeat' first | refine st ?_ | refine stRW [0, 1] H ?_ | refine stm ?_ | refine run_nil ?_ | refine Jz ?_ | refine Jw ?_ | refine aw_block ?_ | refine Jq ?_ | refine aw_ret ?_ | refine pp_ret ?_
    all_goals first
      | rfl
      | (exfalso; omega)
      | (refine congrArg Value.bool ?_; first | exact decide_eq_true (by omega) | exact decide_eq_false (by omega) | exact (decide_eq_true (by omega)).symm | exact (decide_eq_false (by omega)).symm)
      | (show Value.bool _ = Value.bool _; congr 1; first | exact decide_eq_true (by omega) | exact decide_eq_false (by omega) | exact (decide_eq_true (by omega)).symm | exact (decide_eq_false (by omega)).symm)
      | (simp [retOf]; done)
  | true =>
    have hz := ze_ver hc
    by_cases hv : s.ver = 0
    · obtain rfl : A = upd0 := by rw [← hA]; exact if_neg (fun h => h.2 hv)
      obtain rfl : E = 14 := by rw [← hE]; unfold anE; rw [if_pos hc, if_pos hv]
      have H := ac_check s n p hn hp hb hbits hd _ hc
      rw [decide_eq_true hv] at hz
      have H1 := ac_zero s n p hn hp hb _ hz
      clear hc hA hE hbits hz
      obtain ⟨ver, id, kn, mv, ms, mg, mq, L, data, bits, P⟩ := s
      dsimp only at *
      refine acalls_law Tryz.func12 rfl rfl rfl ?_
      repeat' first | refine st ?_ | refine stRW [0, 1] H ?_ | refine stRW [0, 1] H1 ?_ | refine stm ?_ | refine run_nil ?_ | refine Jz ?_ | refine Jw ?_ | refine aw_block ?_ | refine Jq ?_ | refine Jr ?_ | refine aw_ret ?_ | refine pp_ret ?_
      all_goals first
        | rfl
        | (exfalso; omega)
        | (refine congrArg Value.bool ?_; first | exact decide_eq_true (by omega) | exact decide_eq_false (by omega) | exact (decide_eq_true (by omega)).symm | exact (decide_eq_false (by omega)).symm)
        | (show Value.bool _ = Value.bool _; congr 1; first | exact decide_eq_true (by omega) | exact decide_eq_false (by omega) | exact (decide_eq_true (by omega)).symm | exact (decide_eq_false (by omega)).symm)
        | (simp [retOf]; done)
    · obtain rfl : A = annU s := by rw [← hA]; exact if_pos ⟨hc, hv⟩
      obtain rfl : E = 0 := by rw [← hE]; unfold anE; rw [if_pos hc, if_neg hv]
      rw [decide_eq_false hv] at hz
      exact ac_Announce s n p hn hp hb hbits hd hc hz (fun hk => .inr (ch_pg hn hp hc hk).2.2.2.1) _ rfl
set_option maxHeartbeats 8000000 in
theorem ac_rAnnX (s : Sto) (n p : Nat) (hn : s.L.length = n) (hp : s.P.length = p) (hb : n ≤ 1000000 ∧ p ≤ 1000000) (hbits : s.bits < 18446744073709551616) (hd : s.data.size ≤ 1000000) (A : Upd) (hA : anX s = A) (E : Int) (hE : anE s = E) : ACalls Tryz.prog 13 [.agg #[.int .i64 s.ver, .string s.id, .bool s.kn, .int .i64 s.mv, .int .i64 s.ms, .int .i64 s.mg, .int .i64 s.mq, .slice (some ⟨0, 0, none⟩) n n, .string s.data, .int .u64 s.bits, .slice (some ⟨1, 0, none⟩) p p]] [some ⟨List.map Value.string s.L, false, 1⟩, some ⟨List.map Value.string s.P, false, 1⟩] (.tuple #[.agg #[.int .i64 A.kind, .int .i64 A.ver, .string A.id, .int .i64 A.page, .int .i64 A.pkt, .int .u64 A.bits, .string A.data], .int .i64 E]) [none, none] := by
  cases hc : chS s with
  | false =>
    obtain rfl : A = upd0 := by rw [← hA]; exact if_neg (fun h => by rw [hc] at h; exact absurd h.1 (by decide))
    obtain rfl : E = 1 := by rw [← hE]; exact if_neg (by rw [hc]; decide)
    have H := ac_rCheck s n p hn hp hb hbits hd _ hc
    clear hc hA hE hbits
    obtain ⟨ver, id, kn, mv, ms, mg, mq, L, data, bits, P⟩ := s
    dsimp only at *
    refine acalls_law Tryz.func13 rfl rfl rfl ?_
    repeat' first | refine st ?_ | refine stRW [0, 1] H ?_ | refine stm ?_ | refine run_nil ?_ | refine Jz ?_ | refine Jw ?_ | refine Jq ?_ | refine aw_ret ?_ | refine pp_ret ?_
    all_goals first
      | rfl
      | (exfalso; omega)
      | (refine congrArg Value.bool ?_; first | exact decide_eq_true (by omega) | exact decide_eq_false (by omega) | exact (decide_eq_true (by omega)).symm | exact (decide_eq_false (by omega)).symm)
      | (show Value.bool _ = Value.bool _; congr 1; first | exact decide_eq_true (by omega) | exact decide_eq_false (by omega) | exact (decide_eq_true (by omega)).symm | exact (decide_eq_false (by omega)).symm)
      | (simp [retOf]; done)
  | true =>
    have H := ac_rCheck s n p hn hp hb hbits hd _ hc
    by_cases hv : s.ver = 0
    · obtain rfl : A = upd0 := by rw [← hA]; exact if_neg (fun h => h.2 hv)
      obtain rfl : E = 14 := by rw [← hE]; unfold anE; rw [if_pos hc, if_pos hv]
      clear hc hA hE hbits
      obtain ⟨ver, id, kn, mv, ms, mg, mq, L, data, bits, P⟩ := s
      dsimp only at *
      refine acalls_law Tryz.func13 rfl rfl rfl ?_
      repeat' first | refine st ?_ | refine stRW [0, 1] H ?_ | refine stm ?_ | refine run_nil ?_ | refine Jz ?_ | refine Jw ?_ | refine Jr ?_ | refine Js ?_ | refine Jy ?_ | refine aw_ret ?_ | refine pp_ret ?_
      all_goals first
        | rfl
        | (exfalso; omega)
        | (refine congrArg Value.bool ?_; first | exact decide_eq_true (by omega) | exact decide_eq_false (by omega) | exact (decide_eq_true (by omega)).symm | exact (decide_eq_false (by omega)).symm)
        | (show Value.bool _ = Value.bool _; congr 1; first | exact decide_eq_true (by omega) | exact decide_eq_false (by omega) | exact (decide_eq_true (by omega)).symm | exact (decide_eq_false (by omega)).symm)
        | (simp [retOf]; done)
    · obtain rfl : E = 0 := by rw [← hE]; unfold anE; rw [if_pos hc, if_neg hv]
      have hA2 : annU s = A := by rw [← hA]; exact (if_pos ⟨hc, hv⟩).symm
      clear hA
      cases hk : s.kn with
      | false =>
        obtain rfl : A = ⟨1, s.ver, s.id, 0, 0, 0, ⟨#[]⟩⟩ := by rw [← hA2]; unfold annU; rw [if_neg (by rw [hk]; decide)]
        clear hc hE hbits hA2
        obtain ⟨ver, id, kn, mv, ms, mg, mq, L, data, bits, P⟩ := s
        dsimp only at *
        subst hk
        refine acalls_law Tryz.func13 rfl rfl rfl ?_
        repeat' first | refine st ?_ | refine stRW [0, 1] H ?_ | refine stm ?_ | refine run_nil ?_ | refine Jz ?_ | refine Jw ?_ | refine Jr ?_ | refine Jt ?_ | refine Jy ?_ | refine aw_ret ?_ | refine pp_ret ?_
        all_goals first
          | rfl
          | (exfalso; omega)
          | (refine congrArg Value.bool ?_; first | exact decide_eq_true (by omega) | exact decide_eq_false (by omega) | exact (decide_eq_true (by omega)).symm | exact (decide_eq_false (by omega)).symm)
          | (show Value.bool _ = Value.bool _; congr 1; first | exact decide_eq_true (by omega) | exact decide_eq_false (by omega) | exact (decide_eq_true (by omega)).symm | exact (decide_eq_false (by omega)).symm)
          | (simp [retOf]; done)
      | true =>
        obtain ⟨r1, r2, r3, r4, k, r5, r6, r7, r8, r9, r10, r11⟩ := ch_pg hn hp hc hk
        have H1 := ac_rpages s n p hn hp hb r1 k r6
        obtain rfl : A = ⟨1, s.ver, s.id, k, 0, 0, ⟨#[]⟩⟩ := by rw [← hA2]; unfold annU; rw [if_pos hk, hn, r5]
        clear hc hE hbits hA2 r1 r2 r5 r6 r9 r10 r11
        obtain ⟨ver, id, kn, mv, ms, mg, mq, L, data, bits, P⟩ := s
        dsimp only at *
        subst hk
        refine acalls_law Tryz.func13 rfl rfl rfl ?_
        repeat' first | refine st ?_ | refine stRW [0, 1] H ?_ | refine stRW [0, 1] H1 ?_ | refine stm ?_ | refine run_nil ?_ | refine Jz ?_ | refine Jw ?_ | refine Jq ?_ | refine Jr ?_ | refine Jt ?_ | refine Jy ?_ | refine aw_ret ?_ | refine pp_ret ?_
        all_goals first
          | rfl
          | (exfalso; omega)
          | (refine congrArg Value.bool ?_; first | exact decide_eq_true (by omega) | exact decide_eq_false (by omega) | exact (decide_eq_true (by omega)).symm | exact (decide_eq_false (by omega)).symm)
          | (show Value.bool _ = Value.bool _; congr 1; first | exact decide_eq_true (by omega) | exact decide_eq_false (by omega) | exact (decide_eq_true (by omega)).symm | exact (decide_eq_false (by omega)).symm)
          | (simp [retOf]; done)
set_option maxHeartbeats 8000000 in
theorem ac_rComplete (s : Sto) (n p : Nat) (hn : s.L.length = n) (hp : s.P.length = p) (hb : n ≤ 1000000 ∧ p ≤ 1000000) (hbits : s.bits < 18446744073709551616) (hd : s.data.size ≤ 1000000) (x y : Bool) (hx : chS s = x) (hy : cpB s = y) : ACalls Tryz.prog 21 [.agg #[.int .i64 s.ver, .string s.id, .bool s.kn, .int .i64 s.mv, .int .i64 s.ms, .int .i64 s.mg, .int .i64 s.mq, .slice (some ⟨0, 0, none⟩) n n, .string s.data, .int .u64 s.bits, .slice (some ⟨1, 0, none⟩) p p]] [some ⟨List.map Value.string s.L, false, 1⟩, some ⟨List.map Value.string s.P, false, 1⟩] (.bool (x && y)) [none, none] := by
  have H := ac_rCheck s n p hn hp hb hbits hd x hx
  cases x with
  | false =>
    clear hx hy hbits
    obtain ⟨ver, id, kn, mv, ms, mg, mq, L, data, bits, P⟩ := s
    dsimp only at *
    refine acalls_law Tryz.func21 rfl rfl rfl ?_
    repeat' first | refine st ?_ | refine sdRW [0, 1] H ?_ | refine stm ?_ | refine run_nil ?_ | refine sd ?_ | refine sdl ?_ | refine Jl ?_ | refine rund_nil ?_ | refine Jz ?_ | refine Jw ?_ | refine Jx (id := 1) [0,1,3,7,15,31,63,127,255,511,255,1279,3327,7423,16383,32767,65535] 17 ?_ | refine aw_ret ?_ | refine pp_ret ?_
    all_goals first
      | rfl
      | (exfalso; omega)
      | (refine congrArg Value.bool ?_; first | exact decide_eq_true (by omega) | exact decide_eq_false (by omega) | exact (decide_eq_true (by omega)).symm | exact (decide_eq_false (by omega)).symm)
      | (show Value.bool _ = Value.bool _; congr 1; first | exact decide_eq_true (by omega) | exact decide_eq_false (by omega) | exact (decide_eq_true (by omega)).symm | exact (decide_eq_false (by omega)).symm)
      | (simp [retOf]; done)
  | true =>
    cases hk : s.kn with
    | false =>
      obtain rfl : y = false := by rw [← hy]; unfold cpB; rw [hk]; rfl
      clear hx hy hbits
      obtain ⟨ver, id, kn, mv, ms, mg, mq, L, data, bits, P⟩ := s
      dsimp only at *
      subst hk
      refine acalls_law Tryz.func21 rfl rfl rfl ?_
      repeat' first | refine st ?_ | refine sdRW [0, 1] H ?_ | refine stm ?_ | refine run_nil ?_ | refine sd ?_ | refine sdl ?_ | refine Jk ?_ | refine Jl ?_ | refine rund_nil ?_ | refine Jz ?_ | refine Jw ?_ | refine Jx (id := 1) [0,1,3,7,15,31,63,127,255,511,255,1279,3327,7423,16383,32767,65535] 17 ?_ | refine aw_ret ?_ | refine pp_ret ?_
      all_goals first
        | rfl
        | (exfalso; omega)
        | (refine congrArg Value.bool ?_; first | exact decide_eq_true (by omega) | exact decide_eq_false (by omega) | exact (decide_eq_true (by omega)).symm | exact (decide_eq_false (by omega)).symm)
        | (show Value.bool _ = Value.bool _; congr 1; first | exact decide_eq_true (by omega) | exact decide_eq_false (by omega) | exact (decide_eq_true (by omega)).symm | exact (decide_eq_false (by omega)).symm)
        | (simp [retOf]; done)
    | true =>
      obtain ⟨r1, r2, r3, r4, k, r5, r6, r7, r8, r9, r10, r11⟩ := ch_pg hn hp hx hk
      have H1 := ac_rpages s n p hn hp hb r1 k r6
      rw [hy] at r9
      clear hx hy hbits r1 r2 r5 r6 r10 r11
      obtain ⟨ver, id, kn, mv, ms, mg, mq, L, data, bits, P⟩ := s
      dsimp only at *
      subst hk
      cases y
      · have hkn : k ≠ n := fun h => absurd (r9.2 h) (by decide)
        clear r9
        refine acalls_law Tryz.func21 rfl rfl rfl ?_
        repeat' first | refine st ?_ | refine sdRW [0, 1] H ?_ | refine sdRW [0, 1] H1 ?_ | refine stm ?_ | refine run_nil ?_ | refine sd ?_ | refine sdl ?_ | refine Jk ?_ | refine rund_nil ?_ | refine Jz ?_ | refine Jw ?_ | refine Jx (id := 1) [0,1,3,7,15,31,63,127,255,511,255,1279,3327,7423,16383,32767,65535] 17 ?_ | refine aw_ret ?_ | refine pp_ret ?_
        all_goals first
          | rfl
          | (exfalso; omega)
          | (refine congrArg Value.bool ?_; first | exact decide_eq_true (by omega) | exact decide_eq_false (by omega) | exact (decide_eq_true (by omega)).symm | exact (decide_eq_false (by omega)).symm)
          | (show Value.bool _ = Value.bool _; congr 1; first | exact decide_eq_true (by omega) | exact decide_eq_false (by omega) | exact (decide_eq_true (by omega)).symm | exact (decide_eq_false (by omega)).symm)
          | (simp [retOf]; done)
      · obtain rfl := r9.1 rfl
        clear r9
        refine acalls_law Tryz.func21 rfl rfl rfl ?_
        repeat' first | refine st ?_ | refine sdRW [0, 1] H ?_ | refine sdRW [0, 1] H1 ?_ | refine stm ?_ | refine run_nil ?_ | refine sd ?_ | refine sdl ?_ | refine Jk ?_ | refine rund_nil ?_ | refine Jz ?_ | refine Jw ?_ | refine Jx (id := 1) [0,1,3,7,15,31,63,127,255,511,255,1279,3327,7423,16383,32767,65535] 17 ?_ | refine aw_ret ?_ | refine pp_ret ?_
        all_goals first
          | rfl
          | (exfalso; omega)
          | (refine congrArg Value.bool ?_; first | exact decide_eq_true (by omega) | exact decide_eq_false (by omega) | exact (decide_eq_true (by omega)).symm | exact (decide_eq_false (by omega)).symm)
          | (show Value.bool _ = Value.bool _; congr 1; first | exact decide_eq_true (by omega) | exact decide_eq_false (by omega) | exact (decide_eq_true (by omega)).symm | exact (decide_eq_false (by omega)).symm)
          | (simp [retOf]; done)
end Go.Proofs.YtjofcjogbopkjaaGreat
namespace Go.Proofs.YtjofcjogbopkjaaGreat
open Go Av
set_option maxRecDepth 20000
set_option maxHeartbeats 8000000 in
/-- Hear, of what is wrong. -/
theorem ac_HearXX (s : Sto) (n p : Nat) (hn : s.L.length = n) (hp : s.P.length = p) (hb : n ≤ 1000000 ∧ p ≤ 1000000) (hbits : s.bits < 18446744073709551616) (hd : s.data.size ≤ 100000) (uk uv : Int) (ui : ByteArray) (up ut : Int) (ub : Nat) (ud : ByteArray) (c v : Bool) (hc : chS s = c) (hu : valU uk uv ui up ut ub ud = v) (h : ¬ (c = true ∧ v = true)) : ACalls Tryz.prog 9 [.agg #[.int .i64 s.ver, .string s.id, .bool s.kn, .int .i64 s.mv, .int .i64 s.ms, .int .i64 s.mg, .int .i64 s.mq, .slice (some ⟨0, 0, none⟩) n n, .string s.data, .int .u64 s.bits, .slice (some ⟨1, 0, none⟩) p p], .agg #[.int .i64 uk, .int .i64 uv, .string ui, .int .i64 up, .int .i64 ut, .int .u64 ub, .string ud]] [some ⟨List.map Value.string s.L, false, 1⟩, some ⟨List.map Value.string s.P, false, 1⟩] (.tuple #[.agg #[.int .i64 0, .string ⟨#[]⟩, .bool false, .int .i64 0, .int .i64 0, .int .i64 0, .int .i64 0, .slice none 0 0, .string ⟨#[]⟩, .int .u64 0, .slice none 0 0], .bool false, .int .i64 1]) [none, none] := by
  have H0 := ac_check s n p hn hp hb hbits (by omega) c hc
  have H1 := ac_valid uk uv ui up ut ub ud v hu
  clear hc hu hbits
  obtain ⟨ver, id, kn, mv, ms, mg, mq, L, data, bits, P⟩ := s
  dsimp only at *
  cases c
  · clear h
    refine acalls_law Tryz.func9 rfl rfl rfl ?_
    repeat' first | refine st ?_ | refine stRW [0, 1] H0 ?_ | refine stm ?_ | refine Jb ?_ | refine run_nil ?_ | refine Jz ?_ | refine Jw ?_ | refine Jq ?_ | refine aw_ret ?_ | refine pp_ret ?_
    all_goals first
      | rfl
      | (exfalso; omega)
      | (simp [retOf]; done)
      | (exfalso; simp_all; done)
  · cases v
    · clear h
      refine acalls_law Tryz.func9 rfl rfl rfl ?_
      repeat' first | refine st ?_ | refine stRW [0, 1] H0 ?_ | refine st_call (H1) ?_ | refine stm ?_ | refine Ja ?_ | refine run_nil ?_ | refine Jz ?_ | refine Jw ?_ | refine Jq ?_ | refine aw_ret ?_ | refine pp_ret ?_
      all_goals first
        | rfl
        | (exfalso; omega)
        | (simp [retOf]; done)
        | (exfalso; simp_all; done)
    · exact absurd ⟨rfl, rfl⟩ h
set_option maxHeartbeats 8000000 in
/-- Hear, of what is wrong. -/
theorem ac_rHearX (s : Sto) (n p : Nat) (hn : s.L.length = n) (hp : s.P.length = p) (hb : n ≤ 1000000 ∧ p ≤ 1000000) (hbits : s.bits < 18446744073709551616) (hd : s.data.size ≤ 100000) (uk uv : Int) (ui : ByteArray) (up ut : Int) (ub : Nat) (ud : ByteArray) (c v : Bool) (hc : chS s = c) (hu : valU uk uv ui up ut ub ud = v) (h : ¬ (c = true ∧ v = true)) : ACalls Tryz.prog 10 [.agg #[.int .i64 s.ver, .string s.id, .bool s.kn, .int .i64 s.mv, .int .i64 s.ms, .int .i64 s.mg, .int .i64 s.mq, .slice (some ⟨0, 0, none⟩) n n, .string s.data, .int .u64 s.bits, .slice (some ⟨1, 0, none⟩) p p], .agg #[.int .i64 uk, .int .i64 uv, .string ui, .int .i64 up, .int .i64 ut, .int .u64 ub, .string ud]] [some ⟨List.map Value.string s.L, false, 1⟩, some ⟨List.map Value.string s.P, false, 1⟩] (.tuple #[.agg #[.int .i64 0, .string ⟨#[]⟩, .bool false, .int .i64 0, .int .i64 0, .int .i64 0, .int .i64 0, .slice none 0 0, .string ⟨#[]⟩, .int .u64 0, .slice none 0 0], .bool false, .int .i64 1]) [none, none] := by
  have H0 := ac_rCheck s n p hn hp hb hbits (by omega) c hc
  have H1 := ac_rValid uk uv ui up ut ub ud v hu
  clear hc hu hbits
  obtain ⟨ver, id, kn, mv, ms, mg, mq, L, data, bits, P⟩ := s
  dsimp only at *
  cases c
  · clear h
    refine acalls_law Tryz.func10 rfl rfl rfl ?_
    repeat' first | refine st ?_ | refine stRW [0, 1] H0 ?_ | refine stm ?_ | refine Jb ?_ | refine run_nil ?_ | refine Jz ?_ | refine Jw ?_ | refine Jq ?_ | refine aw_ret ?_ | refine pp_ret ?_
    all_goals first
      | rfl
      | (exfalso; omega)
      | (simp [retOf]; done)
      | (exfalso; simp_all; done)
  · cases v
    · clear h
      refine acalls_law Tryz.func10 rfl rfl rfl ?_
      repeat' first | refine st ?_ | refine stRW [0, 1] H0 ?_ | refine st_call (H1) ?_ | refine stm ?_ | refine Ja ?_ | refine run_nil ?_ | refine Jz ?_ | refine Jw ?_ | refine Jq ?_ | refine aw_ret ?_ | refine pp_ret ?_
      all_goals first
        | rfl
        | (exfalso; omega)
        | (simp [retOf]; done)
        | (exfalso; simp_all; done)
    · exact absurd ⟨rfl, rfl⟩ h
end Go.Proofs.YtjofcjogbopkjaaGreat
namespace Go.Proofs.YtjofcjogbopkjaaGreat
open Go Av
set_option maxRecDepth 20000
set_option maxHeartbeats 8000000 in
theorem ac_rempty (s : Sto) (n p : Nat) (hn : s.L.length = n) (hp : s.P.length = p) (hb : n ≤ 1000000 ∧ p ≤ 1000000) (hc : chkM s.mv s.ms s.mg s.mq s.L = 0) (hdb : dnB s.ms s.mg s.data.size = true) (P' : List ByteArray) (m : Nat) (hP : (nxS s).P = P') (hm : P'.length = m) : ACalls Tryz.prog 39 [.agg #[.int .i64 s.ver, .string s.id, .bool s.kn, .int .i64 s.mv, .int .i64 s.ms, .int .i64 s.mg, .int .i64 s.mq, .slice (some ⟨0, 0, none⟩) n n, .string s.data, .int .u64 s.bits, .slice (some ⟨1, 0, none⟩) p p]] [some ⟨List.map Value.string s.L, false, 1⟩, some ⟨List.map Value.string s.P, false, 1⟩] (.agg #[.int .i64 s.ver, .string s.id, .bool s.kn, .int .i64 s.mv, .int .i64 s.ms, .int .i64 s.mg, .int .i64 s.mq, .slice (some ⟨0, 0, none⟩) n n, .string s.data, .int .u64 0, .slice (some ⟨2, 0, none⟩) m m]) [none, none, some ⟨List.map Value.string P', true, 1⟩] := by
  have HP := fun (i : Int) (e x : Int) (he : pgE 0 n i = e) (hx : pkM s.ms s.mg s.mq i e = x) => ac_rpackets s.mv s.ms s.mg s.mq i s.L n hn (by omega) 0 hc e he x hx
  obtain ⟨k, hk, f1, f2, f3, f4, f5, f6, f7, f8, f9⟩ := dn_fc hn hc hdb
  have H := ac_rpages s n p hn hp hb hc k (by unfold pgX; rw [if_pos hdb, hk])
  have HF := fun h => page_fc (i := k) hn hc h
  unfold nxS at hP
  dsimp only at hP
  rw [hn, hk] at hP
  have H := fun b P' p' hp' (hb' : p' ≤ 1000000) => ac_rpages { s with bits := b, P := P' } n p' hn hp' ⟨hb.1, hb'⟩ hc k (by unfold pgX; dsimp only; rw [if_pos hdb, hk])
  have H := H 0 [] 0 rfl (by omega)
  clear hc hdb
  obtain ⟨ver, id, kn, mv, ms, mg, mq, L, data, bits, P⟩ := s
  dsimp only at *
  by_cases hkn : k = n
  · subst hkn
    rw [if_pos rfl] at hP
    subst hP
    obtain rfl : m = 0 := hm.symm
    clear HP HF
    refine acalls_of_aw Tryz.func39 rfl rfl ?_
    refine aw_ghost 1 rfl ?_
    repeat' first | refine st ?_ | refine stRW [0, 2] H ?_ (hargs := .cons (Wk.aggL (.cons (.refl _) (.cons (.refl _) (.cons (.refl _) (.cons (.refl _) (.cons (.refl _) (.cons (.refl _) (.cons (.refl _) (.cons (.refl _) (.cons (.refl _) (.cons (.refl _) (.cons .nil .nil)))))))))))) .nil) | refine stm ?_ | refine run_nil ?_ | refine Jz ?_ | refine Jw ?_ | refine Jt ?_ | refine Jy ?_ | refine aw_ret ?_
    all_goals first | (refine pmw_ret _ (renumA [0, 1, 2]) ?_; exact Wk.aggL (.cons (.refl _) (.cons (.refl _) (.cons (.refl _) (.cons (.refl _) (.cons (.refl _) (.cons (.refl _) (.cons (.refl _) (.cons (.refl _) (.cons (.refl _) (.cons (.refl _) (.cons .nil .nil))))))))))))
  · rw [if_neg (by omega)] at hP
    obtain ⟨K, k1, k2, k3, k4, k5, k6, k7⟩ := HF (by omega)
    rw [k1, Int.toNat_natCast] at hP
    subst hP
    rw [List.length_replicate] at hm
    have eP : List.map Value.string (List.replicate K ⟨#[]⟩) = List.replicate K (Value.string ByteArray.empty) := by rw [List.map_replicate]; rfl
    subst hm
    have H1 := HP k 0 K k4 k5
    clear HP HF k7
    refine acalls_of_aw Tryz.func39 rfl rfl ?_
    refine aw_ghost 1 rfl ?_
    repeat' first | refine st ?_ | refine stRW [0, 2] H ?_ (hargs := .cons (Wk.aggL (.cons (.refl _) (.cons (.refl _) (.cons (.refl _) (.cons (.refl _) (.cons (.refl _) (.cons (.refl _) (.cons (.refl _) (.cons (.refl _) (.cons (.refl _) (.cons (.refl _) (.cons .nil .nil)))))))))))) .nil) | refine stRW [0] H1 ?_ | refine stm ?_ | refine run_nil ?_ | refine Jz ?_ | refine Jw ?_ | refine Js ?_ | refine aw_ret ?_
    all_goals (try simp only [Int.toNat_natCast])
    all_goals (try rw [← eP])
    all_goals first | exact pm_ret _ (renumD [0, 1, 5]) rfl
end Go.Proofs.YtjofcjogbopkjaaGreat
