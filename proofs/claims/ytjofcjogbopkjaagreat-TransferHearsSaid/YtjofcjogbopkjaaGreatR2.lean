/- Transfer, the reference: zero, pages, length, next. Transfer, the reference: Check. -/
import Derived.Test.YtjofcjogbopkjaaGreatVL
import Derived.Test.YtjofcjogbopkjaaGreatU4
import Derived.Test.YtjofcjogbopkjaaGreatS5
import Derived.Test.YtjofcjogbopkjaaGreatS8
import Derived.Test.YtjofcjogbopkjaaGreatU9
set_option linter.unusedVariables false
set_option linter.unusedSimpArgs false
namespace Go.Proofs.YtjofcjogbopkjaaGreat
open Go Av
set_option maxRecDepth 20000
/-- A store that knows nothing (of whatever version). -/
def rzB (s : Sto) : Bool := decide (s.kn = false ∧ noK s.mv s.ms s.mg s.mq s.L.length s.data.size s.bits s.P.length = true)
/-- How many pages are complete, or -1. -/
def pgX (ms mg : Int) (n ds : Nat) : Int := if dnB ms mg ds = true then dnN ms mg n ds else -1
theorem pg_min {v ms mg mq : Int} {L : List ByteArray} {n ds : Nat} (hn : L.length = n) (hc : chkM v ms mg mq L = 0) (i : Nat) (hi : i ≤ n) (h : (ds : Int) = min (i * mg) ms) : dnB ms mg ds = true := by
  obtain ⟨q1, q2, q3, q4, q5⟩ := chk_ok hc
  have hbd := siz_bd q1
  refine decide_eq_true ?_
  by_cases h1 : (ds : Int) = ms
  · exact .inl h1
  · right
    have h2 : (ds : Int) = i * mg := by omega
    exact ⟨by omega, by rw [h2]; exact Int.mul_emod_left _ _⟩
theorem pg_at {v ms mg mq : Int} {L : List ByteArray} {n ds : Nat} (hn : L.length = n) (hc : chkM v ms mg mq L = 0) (i : Nat) (hi : i ≤ n) (h : (ds : Int) = min (i * mg) ms) (h0 : ∀ j : Nat, j < i → (ds : Int) ≠ min (j * mg) ms) : pgX ms mg n ds = i := by
  have hd := pg_min hn hc i hi h
  unfold pgX
  rw [if_pos hd]
  obtain ⟨q1, q2, q3, q4, q5⟩ := chk_ok hc
  obtain ⟨k, hk, f1, f2, f3, f4, f5, f6, f7, f8, f9⟩ := dn_fc hn hc hd
  rw [hk]
  have hkk : (ds : Int) = min (k * mg) ms := by
    rcases Nat.lt_or_ge k n with h1 | h1
    · have := f3 h1
      omega
    · have h2 := f9.1 (by omega)
      have h3 := parts_lt (sz := ms) (i := (k : Int)) (by omega : 1 ≤ mg)
      rw [hn] at q4
      rw [← q4] at h3
      omega
  have h1 : i ≤ k := by
    rcases Nat.lt_or_ge k i with h1 | h1
    · exact absurd hkk (h0 k h1)
    · exact h1
  rcases Nat.lt_or_ge i k with h2 | h2
  · obtain ⟨g1, g2, g3⟩ := f2 i h2
    omega
  · omega
theorem pg_no {v ms mg mq : Int} {L : List ByteArray} {n ds : Nat} (hn : L.length = n) (hc : chkM v ms mg mq L = 0) (h0 : ∀ j : Nat, j ≤ n → (ds : Int) ≠ min (j * mg) ms) : pgX ms mg n ds = -1 := by
  unfold pgX
  by_cases hd : dnB ms mg ds = true
  · exfalso
    obtain ⟨q1, q2, q3, q4, q5⟩ := chk_ok hc
    obtain ⟨k, hk, f1, f2, f3, f4, f5, f6, f7, f8, f9⟩ := dn_fc hn hc hd
    refine h0 k f1 ?_
    rcases Nat.lt_or_ge k n with h1 | h1
    · have := f3 h1
      omega
    · have h2 := f9.1 (by omega)
      have h3 := parts_lt (sz := ms) (i := (k : Int)) (by omega : 1 ≤ mg)
      rw [hn] at q4
      rw [← q4] at h3
      omega
  · rw [if_neg hd]
/-- Bits behind the first ones. -/
theorem shr_zero (B k : Nat) (hk : k < 64) : (B : Int) / 2 ^ (min ((k : Int)).toNat IntKind.u64.bits) = 0 ↔ B < 2 ^ k := by
  have e : min ((k : Int)).toNat IntKind.u64.bits = k := by
    rw [Int.toNat_natCast]
    exact Nat.min_eq_left (Nat.le_of_lt hk)
  rw [e]
  have e2 : (2 : Int) ^ k = ((2 ^ k : Nat) : Int) := by simp
  rw [e2, ← Int.natCast_ediv]
  have h0 : 0 < 2 ^ k := Nat.pow_pos (by decide)
  constructor
  · intro h
    have h1 : B / 2 ^ k = 0 := by omega
    exact (Nat.div_eq_zero_iff_lt h0).1 h1
  · intro h
    rw [Nat.div_eq_of_lt h]
    rfl
structure Wr where
  i : Nat
theorem dgR_size (n : Int) (X : List UInt8) : (dig n X).size = 32 := by
  show (outB _ 8).toArray.size = 32
  simp [outB]
structure Sq where
  i : Nat
  t : Nat
set_option maxHeartbeats 8000000 in
theorem ac_rzero (s : Sto) (n p : Nat) (hn : s.L.length = n) (hp : s.P.length = p) (hb : n ≤ 1000000 ∧ p ≤ 1000000) (x : Bool) (hx : rzB s = x) : ACalls Tryz.prog 45 [.agg #[.int .i64 s.ver, .string s.id, .bool s.kn, .int .i64 s.mv, .int .i64 s.ms, .int .i64 s.mg, .int .i64 s.mq, .slice (some ⟨0, 0, none⟩) n n, .string s.data, .int .u64 s.bits, .slice (some ⟨1, 0, none⟩) p p]] [some ⟨List.map Value.string s.L, false, 1⟩, some ⟨List.map Value.string s.P, false, 1⟩] (.bool x) [none, none] := by
  unfold rzB noK at hx
  obtain ⟨y, hy⟩ : ∃ y, noM s.mv s.ms s.mg s.mq s.L.length = y := ⟨_, rfl⟩
  have H := ac_same s.mv s.ms s.mg s.mq 0 0 0 0 s.L [] n 0 hn rfl (by omega) (by omega) y (by
    rw [← hy]
    unfold noM
    exact decide_eq_decide.2 ⟨fun h => ⟨h.1, h.2.1, h.2.2.1, h.2.2.2.1, by rw [h.2.2.2.2]; rfl⟩, fun h => ⟨h.1, h.2.1, h.2.2.1, h.2.2.2.1, List.eq_nil_of_length_eq_zero h.2.2.2.2⟩⟩)
  rw [hy, hp] at hx
  clear hy
  obtain ⟨ver, id, kn, mv, ms, mg, mq, L, data, bits, P⟩ := s
  dsimp only at *
  obtain ⟨b, hb'⟩ : ∃ b, decide (data = ⟨#[]⟩) = b := ⟨_, rfl⟩
  have hbd : b = true ↔ data.size = 0 := by rw [← hb', decide_eq_true_eq, empty_size]
  by_cases hk : kn = false ∧ y = true
  · obtain ⟨rfl, rfl⟩ := hk
    simp only [true_and, decide_eq_true_eq] at hx
    cases b <;> simp only [true_iff, false_iff, Bool.false_eq_true, not_false_eq_true] at hbd
    all_goals refine acalls_law Tryz.func45 rfl rfl rfl ?_
    all_goals refine aw_ghost 1 rfl ?_
    repeat' first | intro h1 | intro h1 | refine st (h := ok_str_eqlD rfl rfl hb') ?_ | refine st ?_ | refine stRW [0, 2] H ?_ | refine stm ?_ | refine Ja ?_ | refine Jb ?_ | refine Jh ?_ ?_ | refine run_nil ?_ | refine Jz ?_ | refine Jw ?_ | refine aw_ret ?_ | refine pp_ret ?_
    all_goals first
      | rfl
      | (exfalso; omega)
      | (rw [← hx]; refine congrArg Value.bool ?_; first | exact (decide_eq_true (by omega)).symm | exact (decide_eq_false (by omega)).symm | exact decide_eq_decide.2 (by omega))
      | (rw [← hx]; show Value.bool _ = Value.bool _; congr 1; first | exact (decide_eq_true (by omega)).symm | exact (decide_eq_false (by omega)).symm | exact decide_eq_decide.2 (by omega))
      | (exfalso; simp only [Bool.not_eq_true', Bool.not_eq_false', decide_eq_true_eq, decide_eq_false_iff_not, Bool.not_false, Bool.not_true] at *; omega)
      | (simp [retOf]; done)
  · obtain rfl : x = false := by
      rw [← hx]
      refine decide_eq_false fun h => hk ⟨h.1, ?_⟩
      have := of_decide_eq_true h.2
      exact this.1
    clear hx hbd
    have hx := rfl (a := false)
    cases kn <;> cases y <;> simp only [not_true_eq_false, and_self, false_and, and_false, true_and, not_false_eq_true, Bool.true_eq_false, Bool.false_eq_true] at hk
    all_goals refine acalls_law Tryz.func45 rfl rfl rfl ?_
    all_goals refine aw_ghost 1 rfl ?_
    repeat' first | refine st ?_ | refine stRW [0, 2] H ?_ | refine stm ?_ | refine Ja ?_ | refine Jb ?_ | refine run_nil ?_ | refine Jz ?_ | refine Jw ?_ | refine aw_ret ?_ | refine pp_ret ?_
    all_goals first
      | rfl
      | (exfalso; omega)
      | (rw [← hx]; refine congrArg Value.bool ?_; first | exact (decide_eq_true (by omega)).symm | exact (decide_eq_false (by omega)).symm | exact decide_eq_decide.2 (by omega))
      | (rw [← hx]; show Value.bool _ = Value.bool _; congr 1; first | exact (decide_eq_true (by omega)).symm | exact (decide_eq_false (by omega)).symm | exact decide_eq_decide.2 (by omega))
      | (exfalso; simp only [Bool.not_eq_true', Bool.not_eq_false', decide_eq_true_eq, decide_eq_false_iff_not, Bool.not_false, Bool.not_true] at *; omega)
      | (simp [retOf]; done)
set_option maxHeartbeats 8000000 in
theorem ac_rpages (s : Sto) (n p : Nat) (hn : s.L.length = n) (hp : s.P.length = p) (hb : n ≤ 1000000 ∧ p ≤ 1000000) (hc : chkM s.mv s.ms s.mg s.mq s.L = 0) (x : Int) (hx : pgX s.ms s.mg n s.data.size = x) : ACalls Tryz.prog 42 [.agg #[.int .i64 s.ver, .string s.id, .bool s.kn, .int .i64 s.mv, .int .i64 s.ms, .int .i64 s.mg, .int .i64 s.mq, .slice (some ⟨0, 0, none⟩) n n, .string s.data, .int .u64 s.bits, .slice (some ⟨1, 0, none⟩) p p]] [some ⟨List.map Value.string s.L, false, 1⟩, some ⟨List.map Value.string s.P, false, 1⟩] (.int .i64 x) [none, none] := by
  obtain ⟨ver, id, kn, mv, ms, mg, mq, L, data, bits, P⟩ := s
  dsimp only at *
  obtain ⟨q1, q2, q3, q4, q5⟩ := chk_ok hc
  have hbd := siz_bd q1
  rw [hn] at q3
  clear q4 q5 q1
  refine acalls_law Tryz.func42 rfl rfl rfl ?_
  repeat' first | refine st ?_ | refine stm ?_ | refine run_nil ?_ | refine Jz ?_ | refine Jw ?_ | refine aw_block ?_
  refine aw_loopg
    (S := fun y : Wr => [(1, .pointer (some ⟨2, 0, none⟩)), (3, .int .i64 y.i)])
    (B := fun _ : Wr => [some ⟨List.map Value.string L, false, 1⟩, some ⟨List.map Value.string P, false, 1⟩, some ⟨[.int .i64 ver, .string id, .bool kn, .int .i64 mv, .int .i64 ms, .int .i64 mg, .int .i64 mq, .slice (some ⟨0, 0, none⟩) n n, .string data, .int .u64 bits, .slice (some ⟨1, 0, none⟩) p p], true, 1⟩])
    (R := fun y : Wr => y.i ≤ n + 1 ∧ ∀ j : Nat, j < y.i → (data.size : Int) ≠ min (j * mg) ms)
    (μ := fun y : Wr => n + 1 - y.i) ⟨0⟩ (fitsD [0, 1, 2]) ⟨Nat.zero_le _, fun j hj => absurd hj (Nat.not_lt_zero _)⟩ ?_
  rintro ⟨i⟩ ⟨g1, g2⟩
  dsimp only at g1 g2 ⊢
  by_cases hi : i ≤ n
  · have hm0 : 0 ≤ (i : Int) * mg := Int.mul_nonneg (by omega) (by omega)
    have hm1 : (i : Int) * mg ≤ 64 * 4096 := by
      have h1 : (i : Int) * mg ≤ 64 * mg := Int.mul_le_mul_of_nonneg_right (by omega) (by omega)
      have h2 : (64 : Int) * mg ≤ 64 * 4096 := by omega
      omega
    by_cases he : (data.size : Int) = min (i * mg) ms
    · rw [pg_at hn hc i hi he g2] at hx
      subst hx
      clear g2 hc
      repeat' first | refine st (h := ok_mul64 rfl rfl (by omega)) ?_ | refine st ?_ | refine run_nil ?_ | refine Jz ?_ | refine Jw ?_ | refine aw_block ?_ | refine Js ?_ | refine Jy ?_ | refine aw_ret ?_ | refine pp_ret ?_
      all_goals first
        | rfl
        | (exfalso; omega)
        | (refine congrArg Value.bool ?_; first | exact decide_eq_true (by omega) | exact decide_eq_false (by omega) | exact (decide_eq_true (by omega)).symm | exact (decide_eq_false (by omega)).symm)
        | (show Value.bool _ = Value.bool _; congr 1; first | exact decide_eq_true (by omega) | exact decide_eq_false (by omega) | exact (decide_eq_true (by omega)).symm | exact (decide_eq_false (by omega)).symm)
        | (simp [retOf]; done)
    · have hst : ∀ j : Nat, j < i + 1 → (data.size : Int) ≠ min (j * mg) ms := fun j hj => by
        rcases Nat.lt_or_ge j i with h | h
        · exact g2 j h
        · obtain rfl : j = i := by omega
          exact he
      clear g2 hc hx
      repeat' first | refine st (h := ok_mul64 rfl rfl (by omega)) ?_ | refine st ?_ | refine run_nil ?_ | refine Jz ?_ | refine Jw ?_ | refine aw_block ?_ | refine Js ?_ | refine Jt ?_ | refine Jy ?_
      all_goals first | exact Exists.intro ⟨i + 1⟩ ⟨fitsD [0, 1, 2], ⟨by dsimp only; omega, hst⟩, by dsimp only; omega⟩
  · rw [pg_no hn hc fun j hj => g2 j (by omega)] at hx
    subst hx
    clear g2 hc
    repeat' first | refine st ?_ | refine run_nil ?_ | refine Jz ?_ | refine Jw ?_ | refine Jt ?_ | refine aw_exit ?_ | refine aw_ret ?_ | refine pp_ret ?_
    all_goals first
      | rfl
      | (exfalso; omega)
      | (refine congrArg Value.bool ?_; first | exact decide_eq_true (by omega) | exact decide_eq_false (by omega) | exact (decide_eq_true (by omega)).symm | exact (decide_eq_false (by omega)).symm)
      | (show Value.bool _ = Value.bool _; congr 1; first | exact decide_eq_true (by omega) | exact decide_eq_false (by omega) | exact (decide_eq_true (by omega)).symm | exact (decide_eq_false (by omega)).symm)
      | (simp [retOf]; done)
set_option maxHeartbeats 4000000 in
theorem ac_rlength (v sz pg pk : Int) (L : List ByteArray) (n : Nat) (hn : L.length = n) (hb : n ≤ 1000000) (hc : chkM v sz pg pk L = 0) (i : Nat) (hi : i < n) (K : Nat) (k1 : pkC sz pg pk i = K) (j : Nat) (hj : j < K) (x : Int) (hx : pkL sz pg pk i j = x) : ACalls Tryz.prog 71 [.agg #[.int .i64 v, .int .i64 sz, .int .i64 pg, .int .i64 pk, .slice (some ⟨0, 0, none⟩) n n], .int .i64 i, .int .i64 j] [some ⟨List.map Value.string L, false, 1⟩] (.int .i64 x) [none] := by
  obtain ⟨K', k1', k2, k3, k4, k5, k6, k7⟩ := page_fc hn hc hi
  obtain rfl : K = K' := by omega
  obtain ⟨t1, t2, t3, t4⟩ := k7 j hj
  obtain ⟨fr, hfr⟩ : ∃ fr, spF pg pk i j 0 = fr := ⟨_, rfl⟩
  obtain ⟨to, hto⟩ : ∃ to, spT sz pg pk i j 0 = to := ⟨_, rfl⟩
  have hpl : to - fr = x := by rw [← hx]; unfold pkL; rw [hfr, hto]
  have H3 := ac_rspan v sz pg pk i j L n hn (by omega) 0 hc 0 k4 K k5 0 t1 fr to hfr hto
  rw [hfr] at t2 t3
  rw [hto] at t3 t4
  subst hpl
  clear hx hfr hto k7 hc
  refine acalls_law Tryz.func71 rfl rfl rfl ?_
  repeat' first | refine st ?_ | refine stRW [0] H3 ?_ | refine stm ?_ | refine run_nil ?_ | refine Jz ?_ | refine Jw ?_ | refine aw_ret ?_ | refine pp_ret ?_
  all_goals first
    | rfl
    | (exfalso; omega)
    | (refine congrArg Value.bool ?_; first | exact decide_eq_true (by omega) | exact decide_eq_false (by omega) | exact (decide_eq_true (by omega)).symm | exact (decide_eq_false (by omega)).symm)
    | (show Value.bool _ = Value.bool _; congr 1; first | exact decide_eq_true (by omega) | exact decide_eq_false (by omega) | exact (decide_eq_true (by omega)).symm | exact (decide_eq_false (by omega)).symm)
    | (simp [retOf]; done)
set_option maxHeartbeats 8000000 in
theorem ac_rnext (s : Sto) (n p : Nat) (hn : s.L.length = n) (hp : s.P.length = p) (hb : n ≤ 1000000 ∧ p ≤ 1000000) (hc : chkM s.mv s.ms s.mg s.mq s.L = 0) (hbits : s.bits < 18446744073709551616) (k : Nat) (hk : k ≤ n) (x : Bool) (hx : (if k = n then decide (s.bits = 0 ∧ s.P.length = 0) else opnB s.ms s.mg s.mq k s.bits s.P) = x) : ACalls Tryz.prog 47 [.agg #[.int .i64 s.ver, .string s.id, .bool s.kn, .int .i64 s.mv, .int .i64 s.ms, .int .i64 s.mg, .int .i64 s.mq, .slice (some ⟨0, 0, none⟩) n n, .string s.data, .int .u64 s.bits, .slice (some ⟨1, 0, none⟩) p p], .int .i64 k] [some ⟨List.map Value.string s.L, false, 1⟩, some ⟨List.map Value.string s.P, false, 1⟩] (.bool x) [none, none] := by
  obtain ⟨ver, id, kn, mv, ms, mg, mq, L, data, bits, P⟩ := s
  dsimp only at *
  rw [hp] at hx
  by_cases hkn : k = n
  · subst hkn
    rw [if_pos rfl] at hx
    clear hc
    refine acalls_law Tryz.func47 rfl rfl rfl ?_
    repeat' first | intro h1 | intro h1 | refine st ?_ | refine stm ?_ | refine Ja ?_ | refine Jb ?_ | refine Jh ?_ ?_ | refine run_nil ?_ | refine Jz ?_ | refine Jw ?_ | refine Js ?_ | refine aw_ret ?_ | refine pp_ret ?_
    all_goals first
      | rfl
      | (exfalso; omega)
      | (rw [← hx]; refine congrArg Value.bool ?_; first | exact (decide_eq_true (by omega)).symm | exact (decide_eq_false (by omega)).symm | exact decide_eq_decide.2 (by omega))
      | (rw [← hx]; show Value.bool _ = Value.bool _; congr 1; first | exact (decide_eq_true (by omega)).symm | exact (decide_eq_false (by omega)).symm | exact decide_eq_decide.2 (by omega))
      | (exfalso; simp only [Bool.not_eq_true', Bool.not_eq_false', decide_eq_true_eq, decide_eq_false_iff_not, Bool.not_false, Bool.not_true] at *; omega)
      | (simp [retOf]; done)
  rw [if_neg hkn] at hx
  have hi : k < n := by omega
  obtain ⟨K, k1, k2, k3, k4, k5, k6, k7⟩ := page_fc hn hc hi
  have H1 := ac_rpackets mv ms mg mq k L n hn (by omega) 0 hc 0 k4 K k5
  unfold opnB at hx
  rw [k1, hp] at hx
  have HL := fun (j : Nat) (hj : j < K) (y : Int) (hy : pkL ms mg mq k j = y) => ac_rlength mv ms mg mq L n hn (by omega) hc k hi K k1 j hj y hy
  have HB : ∀ j : Nat, j < K → 0 ≤ pkL ms mg mq k j := fun j hj => by
    obtain ⟨t1, t2, t3, t4⟩ := k7 j hj
    unfold pkL
    omega
  clear k7 hc k1 k4 k5 k6
  by_cases e1 : p = K
  case neg =>
    obtain rfl : x = false := by rw [← hx]; exact decide_eq_false fun h => e1 (by omega)
    clear hx HL HB
    refine acalls_law Tryz.func47 rfl rfl rfl ?_
    repeat' first | refine st ?_ | refine stRW [0] H1 ?_ | refine stm ?_ | refine run_nil ?_ | refine Jz ?_ | refine Jw ?_ | refine Js ?_ | refine Jt ?_ | refine Jy ?_ | refine aw_ret ?_ | refine pp_ret ?_
    all_goals first
      | rfl
      | (exfalso; omega)
      | (refine congrArg Value.bool ?_; first | exact decide_eq_true (by omega) | exact decide_eq_false (by omega) | exact (decide_eq_true (by omega)).symm | exact (decide_eq_false (by omega)).symm)
      | (show Value.bool _ = Value.bool _; congr 1; first | exact decide_eq_true (by omega) | exact decide_eq_false (by omega) | exact (decide_eq_true (by omega)).symm | exact (decide_eq_false (by omega)).symm)
      | (simp [retOf]; done)
  subst e1
  refine acalls_law Tryz.func47 rfl rfl rfl ?_
  repeat' first | refine st ?_ | refine stRW [0] H1 ?_ | refine stm ?_ | refine run_nil ?_ | refine Jz ?_ | refine Jw ?_ | refine aw_block ?_ | refine Jt ?_ | refine Jy ?_
  all_goals try (exfalso; omega)
  refine aw_loopg
    (S := fun y : Sq => [(1, .int .i64 k), (2, .pointer (some ⟨2, 0, none⟩)), (5, .int .i64 p), (7, .int .i64 y.t), (8, .int .i64 y.i)])
    (B := fun _ : Sq => [some ⟨List.map Value.string L, false, 1⟩, some ⟨List.map Value.string P, false, 1⟩, some ⟨[.int .i64 ver, .string id, .bool kn, .int .i64 mv, .int .i64 ms, .int .i64 mg, .int .i64 mq, .slice (some ⟨0, 0, none⟩) n n, .string data, .int .u64 bits, .slice (some ⟨1, 0, none⟩) p p], true, 1⟩])
    (R := fun y : Sq => y.i ≤ p ∧ y.t ≤ y.i ∧ (y.t = y.i ↔ ∀ j : Nat, j < y.i → bits.testBit j = true) ∧ ∀ j : Nat, j < y.i → ((P.getD j ⟨#[]⟩).size : Int) = if bits.testBit j then pkL ms mg mq k j else 0)
    (μ := fun y : Sq => p - y.i) ⟨0, 0⟩ (fitsD [0, 1, 2]) ⟨Nat.zero_le _, Nat.le_refl _, ⟨fun _ j hj => absurd hj (Nat.not_lt_zero _), fun _ => rfl⟩, fun j hj => absurd hj (Nat.not_lt_zero _)⟩ ?_
  rintro ⟨j, t⟩ ⟨g1, g2, g3, g4⟩
  dsimp only at g1 g2 g3 g4 ⊢
  by_cases hj : j < p
  · obtain ⟨q, hq⟩ : ∃ q, P[j]? = some q := ⟨_, List.getElem?_eq_getElem (by omega)⟩
    have hqd : P.getD j ⟨#[]⟩ = q := by rw [List.getD_eq_getElem?_getD, hq]; rfl
    have hw := bit_and bits j hbits (by omega)
    obtain ⟨y, hy⟩ : ∃ y, pkL ms mg mq k j = y := ⟨_, rfl⟩
    have H2 := HL j hj y hy
    have hy0 := HB j hj
    rw [hy] at hy0
    obtain ⟨b, hb'⟩ : ∃ b, bits.testBit j = b := ⟨_, rfl⟩
    rw [hb'] at hw
    by_cases hs : (q.size : Int) = if b then y else 0
    · have hstep : ∀ j' : Nat, j' < j + 1 → ((P.getD j' ⟨#[]⟩).size : Int) = if bits.testBit j' then pkL ms mg mq k j' else 0 := fun j' hj' => by
        rcases Nat.lt_or_ge j' j with h | h
        · exact g4 j' h
        · obtain rfl : j' = j := by omega
          rw [hqd, hb', hy]; exact hs
      have h3 : ((t + if b then 1 else 0) = j + 1 ↔ ∀ j' : Nat, j' < j + 1 → bits.testBit j' = true) := by
        constructor
        · intro h j' hj'
          cases b
          · simp at h; omega
          · simp only [if_pos] at h
            rcases Nat.lt_or_ge j' j with h1 | h1
            · exact g3.1 (by omega) j' h1
            · obtain rfl : j' = j := by omega
              exact hb'
        · intro h
          have hbt := h j (Nat.lt_succ_self j)
          rw [hb'] at hbt
          subst hbt
          have := g3.2 fun j' hj' => h j' (by omega)
          simp only [if_pos]
          omega
      clear hx g3 g4 HL HB hy hqd
      cases b
      · rw [if_neg (by decide)] at hs hw
        rw [if_neg (by decide)] at h3
        repeat' first | refine st (h := ok_load_mapE (f := Value.string) j hq rfl rfl rfl (by omega)) ?_ | refine st (v := .int .u64 0) (h := by (rw [← hw]; exact ok_and rfl rfl)) ?_ | refine st ?_ | refine run_nil ?_ | refine Jz ?_ | refine Jw ?_ | refine aw_block ?_ | refine Jr ?_ | refine Js ?_ | refine Jt ?_ | refine Jy ?_
        all_goals first | exact Exists.intro ⟨j + 1, t⟩ ⟨fitsD [0, 1, 2], ⟨by dsimp only; omega, by dsimp only; omega, h3, hstep⟩, by dsimp only; omega⟩
      · rw [if_pos rfl] at hs hw
        rw [if_pos rfl] at h3
        repeat' first | refine st (h := ok_load_mapE (f := Value.string) j hq rfl rfl rfl (by omega)) ?_ | refine st ?_ | refine stRW [0] H2 ?_ | refine run_nil ?_ | refine Jz ?_ | refine Jw ?_ | refine aw_block ?_ | refine Js ?_ | refine Jt ?_ | refine Jy ?_
        all_goals first | exact Exists.intro ⟨j + 1, t + 1⟩ ⟨fitsD [0, 1, 2], ⟨by dsimp only; omega, by dsimp only; omega, h3, hstep⟩, by dsimp only; omega⟩
    · obtain rfl : x = false := by rw [← hx]; exact decide_eq_false fun h => hs (by have := h.2.2.2 j hj; rwa [hqd, hb', hy] at this)
      clear hx g3 g4 HL HB hy hqd
      cases b
      · rw [if_neg (by decide)] at hs hw
        repeat' first | refine st (h := ok_load_mapE (f := Value.string) j hq rfl rfl rfl (by omega)) ?_ | refine st (v := .int .u64 0) (h := by (rw [← hw]; exact ok_and rfl rfl)) ?_ | refine st ?_ | refine run_nil ?_ | refine Jz ?_ | refine Jw ?_ | refine aw_block ?_ | refine Jr ?_ | refine Js ?_ | refine Jy ?_ | refine aw_ret ?_ | refine pp_ret ?_
        all_goals first
          | rfl
          | (exfalso; omega)
          | (refine congrArg Value.bool ?_; first | exact decide_eq_true (by omega) | exact decide_eq_false (by omega) | exact (decide_eq_true (by omega)).symm | exact (decide_eq_false (by omega)).symm)
          | (show Value.bool _ = Value.bool _; congr 1; first | exact decide_eq_true (by omega) | exact decide_eq_false (by omega) | exact (decide_eq_true (by omega)).symm | exact (decide_eq_false (by omega)).symm)
          | (simp [retOf]; done)
      · rw [if_pos rfl] at hs hw
        repeat' first | refine st (h := ok_load_mapE (f := Value.string) j hq rfl rfl rfl (by omega)) ?_ | refine st ?_ | refine stRW [0] H2 ?_ | refine run_nil ?_ | refine Jz ?_ | refine Jw ?_ | refine aw_block ?_ | refine Js ?_ | refine Jy ?_ | refine aw_ret ?_ | refine pp_ret ?_
        all_goals first
          | rfl
          | (exfalso; omega)
          | (refine congrArg Value.bool ?_; first | exact decide_eq_true (by omega) | exact decide_eq_false (by omega) | exact (decide_eq_true (by omega)).symm | exact (decide_eq_false (by omega)).symm)
          | (show Value.bool _ = Value.bool _; congr 1; first | exact decide_eq_true (by omega) | exact decide_eq_false (by omega) | exact (decide_eq_true (by omega)).symm | exact (decide_eq_false (by omega)).symm)
          | (simp [retOf]; done)
  · obtain rfl : j = p := by omega
    clear HL HB H1
    by_cases ht : t = j
    · obtain rfl : x = false := by
        rw [← hx]
        refine decide_eq_false fun h => h.2.2.1 ((all_bits h.2.1).2 (g3.1 ht))
      clear hx g3 g4
      obtain ⟨z, hz⟩ : ∃ z, (bits : Int) / 2 ^ (min ((j : Int)).toNat IntKind.u64.bits) = z := ⟨_, rfl⟩
      repeat' first | refine st ?_ | refine Jb ?_ | refine Jc ?_ | refine Je ?_ | refine run_nil ?_ | refine Jz ?_ | refine Jw ?_ | refine Jt ?_ | refine aw_exit ?_ | refine aw_ret ?_ | refine pp_ret ?_
      all_goals first
        | rfl
        | (exfalso; omega)
        | (refine congrArg Value.bool ?_; first | exact decide_eq_true (by omega) | exact decide_eq_false (by omega) | exact (decide_eq_true (by omega)).symm | exact (decide_eq_false (by omega)).symm)
        | (show Value.bool _ = Value.bool _; congr 1; first | exact decide_eq_true (by omega) | exact decide_eq_false (by omega) | exact (decide_eq_true (by omega)).symm | exact (decide_eq_false (by omega)).symm)
        | (simp [retOf]; done)
    · by_cases e64 : j = 64
      · obtain rfl : x = true := by
          rw [← hx]
          have hlt : bits < 2 ^ j := by rw [e64]; exact hbits
          exact decide_eq_true ⟨rfl, hlt, fun h => ht (g3.2 ((all_bits hlt).1 h)), g4⟩
        clear hx g3 g4
        repeat' first | intro h1 | intro h1 | refine st ?_ | refine Ja ?_ | refine Jb ?_ | refine Jd ?_ | refine Ji ?_ ?_ | refine run_nil ?_ | refine Jz ?_ | refine Jw ?_ | refine Jt ?_ | refine aw_exit ?_ | refine aw_ret ?_ | refine pp_ret ?_
        all_goals first
          | rfl
          | (exfalso; omega)
          | (refine congrArg Value.bool ?_; first | exact decide_eq_true (by omega) | exact decide_eq_false (by omega) | exact (decide_eq_true (by omega)).symm | exact (decide_eq_false (by omega)).symm)
          | (show Value.bool _ = Value.bool _; congr 1; first | exact decide_eq_true (by omega) | exact decide_eq_false (by omega) | exact (decide_eq_true (by omega)).symm | exact (decide_eq_false (by omega)).symm)
          | (simp [retOf]; done)
      · have hz0 := shr_zero bits j (by omega)
        obtain ⟨z, hz⟩ : ∃ z, (bits : Int) / 2 ^ (min ((j : Int)).toNat IntKind.u64.bits) = z := ⟨_, rfl⟩
        rw [hz] at hz0
        by_cases hlt : bits < 2 ^ j
        · obtain rfl : x = true := by
            rw [← hx]
            exact decide_eq_true ⟨rfl, hlt, fun h => ht (g3.2 ((all_bits hlt).1 h)), g4⟩
          have hz1 := hz0.2 hlt
          clear hx g3 g4 hz0 hlt
          repeat' first | refine st (v := .int .u64 z) (h := by (rw [← hz]; exact ok_shr rfl rfl (by omega))) ?_ | refine st ?_ | refine Ja ?_ | refine Jd ?_ | refine Jf ?_ | refine run_nil ?_ | refine Jz ?_ | refine Jw ?_ | refine Jt ?_ | refine aw_exit ?_ | refine aw_ret ?_ | refine pp_ret ?_
          all_goals first
            | rfl
            | (exfalso; omega)
            | (refine congrArg Value.bool ?_; first | exact decide_eq_true (by omega) | exact decide_eq_false (by omega) | exact (decide_eq_true (by omega)).symm | exact (decide_eq_false (by omega)).symm)
            | (show Value.bool _ = Value.bool _; congr 1; first | exact decide_eq_true (by omega) | exact decide_eq_false (by omega) | exact (decide_eq_true (by omega)).symm | exact (decide_eq_false (by omega)).symm)
            | (simp [retOf]; done)
        · obtain rfl : x = false := by
            rw [← hx]
            exact decide_eq_false fun h => hlt h.2.1
          have hz1 : z ≠ 0 := fun h => hlt (hz0.1 h)
          clear hx g3 g4 hz0 hlt
          repeat' first | refine st (v := .int .u64 z) (h := by (rw [← hz]; exact ok_shr rfl rfl (by omega))) ?_ | refine st ?_ | refine Ja ?_ | refine Jd ?_ | refine Jf ?_ | refine run_nil ?_ | refine Jz ?_ | refine Jw ?_ | refine Jt ?_ | refine aw_exit ?_ | refine aw_ret ?_ | refine pp_ret ?_
          all_goals first
            | rfl
            | (exfalso; omega)
            | (refine congrArg Value.bool ?_; first | exact decide_eq_true (by omega) | exact decide_eq_false (by omega) | exact (decide_eq_true (by omega)).symm | exact (decide_eq_false (by omega)).symm)
            | (show Value.bool _ = Value.bool _; congr 1; first | exact decide_eq_true (by omega) | exact decide_eq_false (by omega) | exact (decide_eq_true (by omega)).symm | exact (decide_eq_false (by omega)).symm)
            | (simp [retOf]; done)
end Go.Proofs.YtjofcjogbopkjaaGreat
namespace Go.Proofs.YtjofcjogbopkjaaGreat
open Go Av
set_option maxRecDepth 20000
theorem ch_kn {s : Sto} (hk : s.kn = true) : chS s = knB s := by
  have hz : zeB s = false := decide_eq_false fun h => absurd h.2.2.1 (by rw [hk]; decide)
  unfold chS
  rw [hz, hk, if_pos rfl, Bool.false_or]
  cases h : knB s with
  | false => exact Bool.and_false _
  | true =>
    obtain ⟨r1, r2, r3, _⟩ := knB_spec rfl rfl h
    have hb := siz_bd (chk_ok r1).1
    have : 1 ≤ s.ver ∧ s.ver ≤ 65535 ∧ s.id.size = 32 := ⟨by omega, by omega, by rw [← r3]; exact dgR_size _ _⟩
    rw [decide_eq_true this]
    rfl
theorem ch_no {s : Sto} (hk : s.kn = false) (hr : rzB s = false) : chS s = false := by
  have hn : noK s.mv s.ms s.mg s.mq s.L.length s.data.size s.bits s.P.length = false := by
    cases h : noK s.mv s.ms s.mg s.mq s.L.length s.data.size s.bits s.P.length with
    | false => rfl
    | true => exact absurd (of_decide_eq_false hr) (fun k => k ⟨hk, h⟩)
  have hz : zeB s = false := decide_eq_false fun h => by
    have := of_decide_eq_false hn
    exact this ⟨h.2.2.2.1, h.2.2.2.2.1, h.2.2.2.2.2.1, h.2.2.2.2.2.2⟩
  unfold chS
  rw [hz, hk, if_neg (by decide), hn, Bool.and_false, Bool.false_or]
theorem ch_rz {s : Sto} (hr : rzB s = true) : s.kn = false ∧ chS s = decide ((s.ver = 0 ∧ s.id.size = 0) ∨ (1 ≤ s.ver ∧ s.ver ≤ 65535 ∧ s.id.size = 32)) := by
  obtain ⟨hk, hn⟩ := of_decide_eq_true hr
  obtain ⟨h1, h2, h3, h4⟩ := of_decide_eq_true hn
  have hz : zeB s = decide (s.ver = 0 ∧ s.id.size = 0) := decide_eq_decide.2 ⟨fun h => ⟨h.1, h.2.1⟩, fun h => ⟨h.1, h.2, hk, h1, h2, h3, h4⟩⟩
  refine ⟨hk, ?_⟩
  unfold chS
  rw [hz, hk, if_neg (by decide), hn, Bool.and_true, Bool.decide_or]
set_option maxHeartbeats 8000000 in
theorem ac_rCheck (s : Sto) (n p : Nat) (hn : s.L.length = n) (hp : s.P.length = p) (hb : n ≤ 1000000 ∧ p ≤ 1000000) (hbits : s.bits < 18446744073709551616) (hd : s.data.size ≤ 1000000) (x : Bool) (hx : chS s = x) : ACalls Tryz.prog 19 [.agg #[.int .i64 s.ver, .string s.id, .bool s.kn, .int .i64 s.mv, .int .i64 s.ms, .int .i64 s.mg, .int .i64 s.mq, .slice (some ⟨0, 0, none⟩) n n, .string s.data, .int .u64 s.bits, .slice (some ⟨1, 0, none⟩) p p]] [some ⟨List.map Value.string s.L, false, 1⟩, some ⟨List.map Value.string s.P, false, 1⟩] (.int .i64 (if x then 0 else 1)) [none, none] := by
  obtain ⟨z, hz⟩ : ∃ z, rzB s = z := ⟨_, rfl⟩
  have H0 := ac_rzero s n p hn hp hb z hz
  cases z
  case true =>
    obtain ⟨hk, hc⟩ := ch_rz hz
    rw [hx] at hc
    clear hz hx
    obtain ⟨ver, id, kn, mv, ms, mg, mq, L, data, bits, P⟩ := s
    dsimp only at *
    subst hk
    obtain ⟨b, hb'⟩ : ∃ b, decide (id = ⟨#[]⟩) = b := ⟨_, rfl⟩
    have hbd : b = true ↔ id.size = 0 := by rw [← hb', decide_eq_true_eq, empty_size]
    by_cases hv : 1 ≤ ver ∧ ver ≤ 65535 ∧ id.size = 32
    · obtain rfl : x = true := by rw [hc]; exact decide_eq_true (.inr hv)
      obtain rfl : b = false := by
        cases b
        · rfl
        · have := hbd.1 rfl
          omega
      clear hc hbd
      refine acalls_law Tryz.func19 rfl rfl rfl ?_
      repeat' first | refine st ?_ | refine stRW [0, 1] H0 ?_ | refine stm ?_ | refine Ja ?_ | refine Jb ?_ | refine Jd ?_ | refine Je ?_ | refine run_nil ?_ | refine Jz ?_ | refine Jw ?_ | refine Jq ?_ | refine Js ?_ | refine aw_ret ?_ | refine pp_ret ?_
      all_goals first
        | rfl
        | (exfalso; omega)
        | (refine congrArg Value.bool ?_; first | exact decide_eq_true (by omega) | exact decide_eq_false (by omega) | exact (decide_eq_true (by omega)).symm | exact (decide_eq_false (by omega)).symm)
        | (show Value.bool _ = Value.bool _; congr 1; first | exact decide_eq_true (by omega) | exact decide_eq_false (by omega) | exact (decide_eq_true (by omega)).symm | exact (decide_eq_false (by omega)).symm)
        | (simp [retOf]; done)
    · by_cases h0 : ver = 0
      · subst h0
        cases b
        · obtain rfl : x = false := by
            rw [hc]
            refine decide_eq_false fun h => ?_
            rcases h with h | h
            · exact absurd (hbd.2 h.2) (by decide)
            · omega
          clear hc hbd hv
          refine acalls_law Tryz.func19 rfl rfl rfl ?_
          repeat' first | refine st (h := ok_str_eqlD rfl rfl hb') ?_ | refine st ?_ | refine stRW [0, 1] H0 ?_ | refine stm ?_ | refine Ja ?_ | refine Jb ?_ | refine run_nil ?_ | refine Jz ?_ | refine Jw ?_ | refine Jq ?_ | refine Jr ?_ | refine Jy ?_ | refine aw_ret ?_ | refine pp_ret ?_
          all_goals first
            | rfl
            | (exfalso; omega)
            | (refine congrArg Value.bool ?_; first | exact decide_eq_true (by omega) | exact decide_eq_false (by omega) | exact (decide_eq_true (by omega)).symm | exact (decide_eq_false (by omega)).symm)
            | (show Value.bool _ = Value.bool _; congr 1; first | exact decide_eq_true (by omega) | exact decide_eq_false (by omega) | exact (decide_eq_true (by omega)).symm | exact (decide_eq_false (by omega)).symm)
            | (simp [retOf]; done)
        · obtain rfl : x = true := by rw [hc]; exact decide_eq_true (.inl ⟨rfl, hbd.1 rfl⟩)
          clear hc hbd hv
          refine acalls_law Tryz.func19 rfl rfl rfl ?_
          repeat' first | refine st (h := ok_str_eqlD rfl rfl hb') ?_ | refine st ?_ | refine stRW [0, 1] H0 ?_ | refine stm ?_ | refine Ja ?_ | refine Jb ?_ | refine Jc ?_ | refine run_nil ?_ | refine Jz ?_ | refine Jw ?_ | refine Jq ?_ | refine aw_ret ?_ | refine pp_ret ?_
          all_goals first
            | rfl
            | (exfalso; omega)
            | (refine congrArg Value.bool ?_; first | exact decide_eq_true (by omega) | exact decide_eq_false (by omega) | exact (decide_eq_true (by omega)).symm | exact (decide_eq_false (by omega)).symm)
            | (show Value.bool _ = Value.bool _; congr 1; first | exact decide_eq_true (by omega) | exact decide_eq_false (by omega) | exact (decide_eq_true (by omega)).symm | exact (decide_eq_false (by omega)).symm)
            | (simp [retOf]; done)
      · obtain rfl : x = false := by
          rw [hc]
          refine decide_eq_false fun h => ?_
          rcases h with h | h
          · exact h0 h.1
          · exact hv h
        clear hc hbd
        refine acalls_law Tryz.func19 rfl rfl rfl ?_
        repeat' first | intro h1 | intro h1 | refine st ?_ | refine stRW [0, 1] H0 ?_ | refine stm ?_ | refine Ja ?_ | refine Jb ?_ | refine Je ?_ | refine Jh ?_ ?_ | refine run_nil ?_ | refine Jz ?_ | refine Jw ?_ | refine Jq ?_ | refine Jr ?_ | refine Jt ?_ | refine Jy ?_ | refine aw_ret ?_ | refine pp_ret ?_
        all_goals first
          | rfl
          | (exfalso; omega)
          | (refine congrArg Value.bool ?_; first | exact decide_eq_true (by omega) | exact decide_eq_false (by omega) | exact (decide_eq_true (by omega)).symm | exact (decide_eq_false (by omega)).symm)
          | (show Value.bool _ = Value.bool _; congr 1; first | exact decide_eq_true (by omega) | exact decide_eq_false (by omega) | exact (decide_eq_true (by omega)).symm | exact (decide_eq_false (by omega)).symm)
          | (simp [retOf]; done)
  case false =>
    obtain ⟨c, hc⟩ : ∃ c, chkM s.mv s.ms s.mg s.mq s.L = c := ⟨_, rfl⟩
    obtain ⟨D, hD⟩ : ∃ D, idS c (encS s.mv s.ms s.mg s.mq s.L) = D := ⟨_, rfl⟩
    have H1 := ac_rID s.mv s.ms s.mg s.mq s.L n hn (by omega) c hc D hD
    cases hk : s.kn
    · obtain rfl : x = false := by rw [← hx]; exact ch_no hk hz
      clear hx hz hc hD
      obtain ⟨ver, id, kn, mv, ms, mg, mq, L, data, bits, P⟩ := s
      dsimp only at *
      subst hk
      refine acalls_law Tryz.func19 rfl rfl rfl ?_
      repeat' first | refine st ?_ | refine stRW [0, 1] H0 ?_ | refine stRW [0] H1 ?_ | refine stm ?_ | refine Jb ?_ | refine run_nil ?_ | refine Jz ?_ | refine Jw ?_ | refine Jq ?_ | refine Jr ?_ | refine Jy ?_ | refine aw_ret ?_ | refine pp_ret ?_
      all_goals first
        | rfl
        | (exfalso; omega)
        | (refine congrArg Value.bool ?_; first | exact decide_eq_true (by omega) | exact decide_eq_false (by omega) | exact (decide_eq_true (by omega)).symm | exact (decide_eq_false (by omega)).symm)
        | (show Value.bool _ = Value.bool _; congr 1; first | exact decide_eq_true (by omega) | exact decide_eq_false (by omega) | exact (decide_eq_true (by omega)).symm | exact (decide_eq_false (by omega)).symm)
        | (simp [retOf]; done)
    · rw [ch_kn hk] at hx
      clear hz
      by_cases hc0 : c = 0
      case neg =>
        obtain rfl : x = false := by
          rw [← hx]
          unfold knB
          rw [hc, decide_eq_false (fun h => hc0 h.1)]
          rfl
        clear hx hc hD
        obtain ⟨ver, id, kn, mv, ms, mg, mq, L, data, bits, P⟩ := s
        dsimp only at *
        subst hk
        refine acalls_law Tryz.func19 rfl rfl rfl ?_
        repeat' first | intro h1 | intro h1 | refine st ?_ | refine stRW [0, 1] H0 ?_ | refine stRW [0] H1 ?_ | refine stm ?_ | refine Ja ?_ | refine Jb ?_ | refine Jf ?_ | refine Ji ?_ ?_ | refine run_nil ?_ | refine Jz ?_ | refine Jw ?_ | refine Jq ?_ | refine Jr ?_ | refine Js ?_ | refine Jy ?_ | refine aw_ret ?_ | refine pp_ret ?_
        all_goals first
          | rfl
          | (exfalso; omega)
          | (refine congrArg Value.bool ?_; first | exact decide_eq_true (by omega) | exact decide_eq_false (by omega) | exact (decide_eq_true (by omega)).symm | exact (decide_eq_false (by omega)).symm)
          | (show Value.bool _ = Value.bool _; congr 1; first | exact decide_eq_true (by omega) | exact decide_eq_false (by omega) | exact (decide_eq_true (by omega)).symm | exact (decide_eq_false (by omega)).symm)
          | (simp [retOf]; done)
      subst hc0
      have hD2 : dig 0 (idB (encS s.mv s.ms s.mg s.mq s.L)).data.toList = D := by rw [← hD]; exact (if_neg (by decide)).symm
      clear hD
      by_cases e1 : D = s.id
      case neg =>
        obtain rfl : x = false := by
          rw [← hx]
          unfold knB
          rw [hD2, decide_eq_false (fun h => e1 h.2.2)]
          rfl
        clear hx hc hD2
        obtain ⟨ver, id, kn, mv, ms, mg, mq, L, data, bits, P⟩ := s
        dsimp only at *
        subst hk
        have e2 : decide (D = id) = false := decide_eq_false e1
        clear e1
        refine acalls_law Tryz.func19 rfl rfl rfl ?_
        repeat' first | refine st (h := ok_str_neqD rfl rfl e2) ?_ | refine st ?_ | refine stRW [0, 1] H0 ?_ | refine stRW [0] H1 ?_ | refine stm ?_ | refine Ja ?_ | refine Jb ?_ | refine run_nil ?_ | refine Jz ?_ | refine Jw ?_ | refine Jq ?_ | refine Jr ?_ | refine Jy ?_ | refine aw_ret ?_ | refine pp_ret ?_
        all_goals first
          | rfl
          | (exfalso; omega)
          | (refine congrArg Value.bool ?_; first | exact decide_eq_true (by omega) | exact decide_eq_false (by omega) | exact (decide_eq_true (by omega)).symm | exact (decide_eq_false (by omega)).symm)
          | (show Value.bool _ = Value.bool _; congr 1; first | exact decide_eq_true (by omega) | exact decide_eq_false (by omega) | exact (decide_eq_true (by omega)).symm | exact (decide_eq_false (by omega)).symm)
          | (simp [retOf]; done)
      subst e1
      by_cases e1 : s.mv = s.ver
      case neg =>
        obtain rfl : x = false := by
          rw [← hx]
          unfold knB
          rw [decide_eq_false (fun h => e1 h.2.1)]
          rfl
        clear hx hc hD2
        obtain ⟨ver, id, kn, mv, ms, mg, mq, L, data, bits, P⟩ := s
        dsimp only at *
        subst hk
        refine acalls_law Tryz.func19 rfl rfl rfl ?_
        repeat' first | refine st (h := ok_str_neqF rfl rfl) ?_ | refine st ?_ | refine stRW [0, 1] H0 ?_ | refine stRW [0] H1 ?_ | refine stm ?_ | refine Ja ?_ | refine run_nil ?_ | refine Jz ?_ | refine Jw ?_ | refine Jr ?_ | refine Js ?_ | refine Jy ?_ | refine aw_ret ?_ | refine pp_ret ?_
        all_goals first
          | rfl
          | (exfalso; omega)
          | (refine congrArg Value.bool ?_; first | exact decide_eq_true (by omega) | exact decide_eq_false (by omega) | exact (decide_eq_true (by omega)).symm | exact (decide_eq_false (by omega)).symm)
          | (show Value.bool _ = Value.bool _; congr 1; first | exact decide_eq_true (by omega) | exact decide_eq_false (by omega) | exact (decide_eq_true (by omega)).symm | exact (decide_eq_false (by omega)).symm)
          | (simp [retOf]; done)
      have H2 := ac_rpages s n p hn hp hb hc
      have H4 := ac_rnext s n p hn hp hb hc hbits
      obtain ⟨ver, id, kn, mv, ms, mg, mq, L, data, bits, P⟩ := s
      dsimp only at *
      subst hk e1
      unfold knB at hx
      dsimp only at hx
      rw [hn, hp, decide_eq_true ⟨hc, rfl, hD2⟩, Bool.true_and] at hx
      clear hD2
      cases hdb : dnB ms mg data.size with
      | false =>
        obtain rfl : x = false := by rw [← hx, hdb]; rfl
        have H2 := H2 (-1) (by unfold pgX; rw [hdb]; rfl)
        clear hx H4 hc
        refine acalls_law Tryz.func19 rfl rfl rfl ?_
        repeat' first | refine st (h := ok_str_neqF rfl rfl) ?_ | refine st ?_ | refine stRW [0, 1] H0 ?_ | refine stRW [0] H1 ?_ | refine stRW [0, 1] H2 ?_ | refine stm ?_ | refine Ja ?_ | refine run_nil ?_ | refine Jz ?_ | refine Jw ?_ | refine Jq ?_ | refine Jr ?_ | refine Jt ?_ | refine Jy ?_ | refine aw_ret ?_ | refine pp_ret ?_
        all_goals first
          | rfl
          | (exfalso; omega)
          | (refine congrArg Value.bool ?_; first | exact decide_eq_true (by omega) | exact decide_eq_false (by omega) | exact (decide_eq_true (by omega)).symm | exact (decide_eq_false (by omega)).symm)
          | (show Value.bool _ = Value.bool _; congr 1; first | exact decide_eq_true (by omega) | exact decide_eq_false (by omega) | exact (decide_eq_true (by omega)).symm | exact (decide_eq_false (by omega)).symm)
          | (simp [retOf]; done)
      | true =>
        obtain ⟨k, hk, f1, f2, f3, f4, f5, f6, f7, f8, f9⟩ := dn_fc hn hc hdb
        have H2 := H2 k (by unfold pgX; rw [if_pos hdb, hk])
        rw [hdb, hk, Bool.true_and, Int.toNat_natCast] at hx
        have H4 := H4 k f1
        rw [hp] at H4
        have ek : ((k : Int) = n) ↔ k = n := by omega
        simp only [ek] at hx
        refine acalls_law Tryz.func19 rfl rfl rfl ?_
        repeat' first | refine st (h := ok_str_neqF rfl rfl) ?_ | refine st ?_ | refine stRW [0, 1] H0 ?_ | refine stRW [0] H1 ?_ | refine stRW [0, 1] H2 ?_ | refine stm ?_ | refine Ja ?_ | refine run_nil ?_ | refine Jz ?_ | refine Jw ?_ | refine aw_block ?_ | refine Jr ?_ | refine Jt ?_ | refine Jy ?_
        all_goals try (exfalso; omega)
        refine aw_loopg
          (S := fun y : Wr => [(1, .pointer (some ⟨2, 0, none⟩)), (5, .int .i64 k), (6, .int .i64 y.i)])
          (B := fun _ : Wr => [some ⟨List.map Value.string L, false, 1⟩, some ⟨List.map Value.string P, false, 1⟩, some ⟨[.int .i64 mv, .string id, .bool true, .int .i64 mv, .int .i64 ms, .int .i64 mg, .int .i64 mq, .slice (some ⟨0, 0, none⟩) n n, .string data, .int .u64 bits, .slice (some ⟨1, 0, none⟩) p p], true, 1⟩])
          (R := fun y : Wr => y.i ≤ k ∧ pgsB mv ms mg L data y.i = true)
          (μ := fun y : Wr => k - y.i) ⟨0⟩ (fitsD [0, 1, 2]) ⟨Nat.zero_le _, decide_eq_true fun j hj => absurd hj (Nat.not_lt_zero _)⟩ ?_
        clear H0 H1 H2
        rintro ⟨i⟩ ⟨g1, g2⟩
        dsimp only at g1 g2 ⊢
        by_cases hi : i < k
        · obtain ⟨m1, m2, m3⟩ := f2 i hi
          have hpe : pgE 0 n i = 0 := by unfold pgE; rw [if_neg (by decide), if_neg (by omega)]
          have hps : (pgS data mg i).size ≤ data.size := by unfold pgS; rw [ByteArray.size_extract]; omega
          obtain ⟨y, hy⟩ : ∃ y, vfE mv ms mg 0 i L (pgS data mg i) = y := ⟨_, rfl⟩
          have H3 := ac_rverify mv ms mg mq i L n hn (by omega) (pgS data mg i) (by omega) 0 hc 0 hpe y hy
          by_cases hy0 : y = 0
          · subst hy0
            have hst := pgsB_step (k := k) g2 hy
            clear hx hy g2 H4 ek f2 f9
            repeat' first | refine sd (h := ok_mul64 rfl rfl (by omega)) ?_ | refine st ?_ | refine sdRW [0] H3 ?_ | refine run_nil ?_ | refine sd ?_ | refine sdl ?_ | refine rund_nil ?_ | refine Jz ?_ | refine Jw ?_ | refine Jx (id := 14) [0,1,0,0,8,0,0,64,192,480,0,1024,0,4096,12288,31744,0,65536,196608,523264,1048568,2097151,4194303] 23 ?_ | refine aw_block ?_ | refine Jr ?_ | refine Js ?_ | refine Jy ?_
            all_goals first | exact Exists.intro ⟨i + 1⟩ ⟨fitsD [0, 1, 2], ⟨by dsimp only; omega, hst⟩, by dsimp only; omega⟩
          · obtain rfl : x = false := by
              rw [← hx]
              have : pgsB mv ms mg L data k = false := decide_eq_false fun h => hy0 (by rw [← hy]; exact h i hi)
              rw [this]; rfl
            clear hx hy g2 H4 ek f2 f9
            repeat' first | refine sd (h := ok_mul64 rfl rfl (by omega)) ?_ | refine st ?_ | refine sdRW [0] H3 ?_ | refine run_nil ?_ | refine sd ?_ | refine sdl ?_ | refine rund_nil ?_ | refine Jz ?_ | refine Jw ?_ | refine Jx (id := 14) [0,1,0,0,8,0,0,64,192,480,0,1024,0,4096,12288,31744,0,65536,196608,523264,1048568,2097151,4194303] 23 ?_ | refine aw_block ?_ | refine Js ?_ | refine Jy ?_ | refine aw_ret ?_ | refine pp_ret ?_
            all_goals first
              | rfl
              | (exfalso; omega)
              | (refine congrArg Value.bool ?_; first | exact decide_eq_true (by omega) | exact decide_eq_false (by omega) | exact (decide_eq_true (by omega)).symm | exact (decide_eq_false (by omega)).symm)
              | (show Value.bool _ = Value.bool _; congr 1; first | exact decide_eq_true (by omega) | exact decide_eq_false (by omega) | exact (decide_eq_true (by omega)).symm | exact (decide_eq_false (by omega)).symm)
              | (simp [retOf]; done)
        · obtain rfl : i = k := by omega
          rw [g2, Bool.true_and] at hx
          have H4 := H4 x hx
          clear hx g2 ek f2 f9 hc
          cases x
          repeat' first | refine st ?_ | refine stRW [0, 1] H4 ?_ | refine run_nil ?_ | refine Jz ?_ | refine Jw ?_ | refine Jq ?_ | refine Jr ?_ | refine Jt ?_ | refine Jy ?_ | refine aw_exit ?_ | refine aw_ret ?_ | refine pp_ret ?_
          all_goals first
            | rfl
            | (exfalso; omega)
            | (refine congrArg Value.bool ?_; first | exact decide_eq_true (by omega) | exact decide_eq_false (by omega) | exact (decide_eq_true (by omega)).symm | exact (decide_eq_false (by omega)).symm)
            | (show Value.bool _ = Value.bool _; congr 1; first | exact decide_eq_true (by omega) | exact decide_eq_false (by omega) | exact (decide_eq_true (by omega)).symm | exact (decide_eq_false (by omega)).symm)
            | (simp [retOf]; done)
end Go.Proofs.YtjofcjogbopkjaaGreat
