/- Clocks. -/
import Derived.Test.YtdenooeaiicheaaGreatVL
import Derived.Test.YtdenooeaiicheaaGreatA2
set_option linter.unusedVariables false
set_option linter.unusedSimpArgs false
namespace Go.Proofs.YtdenooeaiicheaaGreat
open Go Av
set_option maxRecDepth 20000
theorem ok_quoD {P : Program} {ρ : Operand → Option Value} {m : Mem} {d : Option Tmp} {t : TypeId} {pp : String} {af : Array Edge} {g : Option (Nat × Bool)} {xt yt : TypeId} {x y : Operand} {a b q : Int} (hx : ρ x = some (.int .i64 a)) (hy : ρ y = some (.int .i64 b)) (h0 : b ≠ 0) (he : a.tdiv b = q) (hr : -9223372036854775808 ≤ q ∧ q ≤ 9223372036854775807) : OpOK P ⟨d, .binOp .quo xt x y yt, t, pp, af, g⟩ ρ m (.int .i64 q) m := by
  have := ok_quo (P := P) (m := m) (d := d) (t := t) (pp := pp) (af := af) (g := g) (xt := xt) (yt := yt) hx hy h0
  rw [he] at this
  rwa [wrap64 hr] at this
theorem ok_remD {P : Program} {ρ : Operand → Option Value} {m : Mem} {d : Option Tmp} {t : TypeId} {pp : String} {af : Array Edge} {g : Option (Nat × Bool)} {xt yt : TypeId} {x y : Operand} {a b q : Int} (hx : ρ x = some (.int .i64 a)) (hy : ρ y = some (.int .i64 b)) (h0 : b ≠ 0) (he : a.tmod b = q) : OpOK P ⟨d, .binOp .rem xt x y yt, t, pp, af, g⟩ ρ m (.int .i64 q) m := by
  subst he
  exact ok_rem hx hy h0
/-- A quotient by a billion, rounded down. -/
def flI (a : Int) : Int := if a.tmod 1000000000 < 0 then a.tdiv 1000000000 - 1 else a.tdiv 1000000000
theorem fl_bd {a : Int} (h : -1000000000000000000 ≤ a ∧ a ≤ 1000000000000000000) : -1000000001 ≤ flI a ∧ flI a ≤ 1000000000 ∧ -1000000000 ≤ a.tdiv 1000000000 ∧ a.tdiv 1000000000 ≤ 1000000000 := by
  have e := Int.mul_tdiv_add_tmod a 1000000000
  have h1 := Int.tmod_lt_of_pos a (b := 1000000000) (by decide)
  have h2 : -1000000000 < a.tmod 1000000000 := by
    have := Int.lt_tmod_of_pos a (b := 1000000000) (by decide)
    omega
  unfold flI
  split <;> omega
/-- What a clock shows. -/
def shI (off dr t : Int) : Int := off + t + flI (t * dr)
/-- The first number for which something holds, as it is searched for. -/
def srch (q : Nat → Bool) (i j : Nat) : Nat :=
  if h : i < j then (if q ((i + j) / 2) then srch q i ((i + j) / 2) else srch q ((i + j) / 2 + 1) j) else i
  termination_by j - i
  decreasing_by all_goals omega
theorem srch_bd (q : Nat → Bool) : ∀ (d i j : Nat), j - i ≤ d → i ≤ j → i ≤ srch q i j ∧ srch q i j ≤ j := by
  intro d
  induction d with
  | zero =>
    intro i j h1 h2
    rw [srch, dif_neg (by omega)]
    omega
  | succ d ih =>
    intro i j h1 h2
    rw [srch]
    by_cases h : i < j
    · rw [dif_pos h]
      split
      · have := ih i ((i + j) / 2) (by omega) (by omega)
        omega
      · have := ih ((i + j) / 2 + 1) j (by omega) (by omega)
        omega
    · rw [dif_neg h]
      omega
theorem srch_at (q : Nat → Bool) (k : Nat) (hq : ∀ x, q x = decide (k ≤ x)) : ∀ (d i j : Nat), j - i ≤ d → i ≤ k → k ≤ j → srch q i j = k := by
  intro d
  induction d with
  | zero =>
    intro i j h1 h2 h3
    rw [srch, dif_neg (by omega)]
    omega
  | succ d ih =>
    intro i j h1 h2 h3
    rw [srch]
    by_cases h : i < j
    · rw [dif_pos h, hq]
      by_cases h4 : k ≤ (i + j) / 2
      · rw [if_pos (decide_eq_true h4)]
        exact ih i _ (by omega) h2 h4
      · rw [if_neg (by simpa using h4)]
        exact ih _ j (by omega) (by omega) h3
    · rw [dif_neg h]
      omega
def shQ (off dr x : Int) (t : Nat) : Bool := decide (x ≤ shI off dr t)
def rcI (off dr x : Int) : Int := if shI off dr 1099511627776 < x then 0 else srch (shQ off dr x) 0 1099511627776
def rcE (off dr x : Int) : Int := if shI off dr 1099511627776 < x then 15 else 0
theorem rc_bd (off dr x : Int) : 0 ≤ rcI off dr x ∧ rcI off dr x ≤ 1099511627776 := by
  unfold rcI
  split
  · omega
  · have := srch_bd (shQ off dr x) 1099511627776 0 1099511627776 (by omega) (by omega)
    omega
def ckI (off dr : Int) : Int := if -1099511627776 ≤ off ∧ off ≤ 1099511627776 ∧ -100000 ≤ dr ∧ dr ≤ 100000 then 0 else 1
def csI (off dr slot : Int) : Int := if ckI off dr = 0 then (if 0 ≤ slot ∧ slot ≤ 109951162 then 0 else 2) else 1
set_option maxHeartbeats 2000000 in
theorem ac_floor (a v : Int) (ha : -1000000000000000000 ≤ a ∧ a ≤ 1000000000000000000) (hv : flI a = v) : ACalls Tryz.prog 61 [.int .i64 a, .int .i64 1000000000] [] (.int .i64 v) [] := by
  obtain ⟨_, _, h1, h2⟩ := fl_bd ha
  unfold flI at hv
  obtain ⟨q, hq⟩ : ∃ q, a.tdiv 1000000000 = q := ⟨_, rfl⟩
  obtain ⟨r, hr⟩ : ∃ q, a.tmod 1000000000 = q := ⟨_, rfl⟩
  rw [hq] at h1 h2 hv
  rw [hr] at hv
  by_cases h : r < 0
  · rw [if_pos h] at hv
    subst hv
    refine acalls_pure Tryz.func61 rfl rfl rfl ?_
    repeat' first | refine st (v := .int .i64 q) (h := ok_quoD rfl rfl (by decide) hq (by omega)) ?_ | refine st (h := ok_remD rfl rfl (by decide) hr) ?_ | refine st ?_ | refine run_nil ?_ | refine Jz ?_ | refine Jw ?_ | refine Js ?_ | refine aw_ret ?_ | refine pp_ret ?_
    all_goals first
      | rfl
      | (exfalso; omega)
      | (refine congrArg Value.bool ?_; first | exact decide_eq_true (by omega) | exact decide_eq_false (by omega) | exact (decide_eq_true (by omega)).symm | exact (decide_eq_false (by omega)).symm)
      | (show Value.bool _ = Value.bool _; congr 1; first | exact decide_eq_true (by omega) | exact decide_eq_false (by omega) | exact (decide_eq_true (by omega)).symm | exact (decide_eq_false (by omega)).symm)
      | (simp [retOf]; done)
  · rw [if_neg h] at hv
    subst hv
    refine acalls_pure Tryz.func61 rfl rfl rfl ?_
    repeat' first | refine st (v := .int .i64 q) (h := ok_quoD rfl rfl (by decide) hq (by omega)) ?_ | refine st (h := ok_remD rfl rfl (by decide) hr) ?_ | refine st ?_ | refine run_nil ?_ | refine Jz ?_ | refine Jw ?_ | refine Jt ?_ | refine Jy ?_ | refine aw_ret ?_ | refine pp_ret ?_
    all_goals first
      | rfl
      | (exfalso; omega)
      | (refine congrArg Value.bool ?_; first | exact decide_eq_true (by omega) | exact decide_eq_false (by omega) | exact (decide_eq_true (by omega)).symm | exact (decide_eq_false (by omega)).symm)
      | (show Value.bool _ = Value.bool _; congr 1; first | exact decide_eq_true (by omega) | exact decide_eq_false (by omega) | exact (decide_eq_true (by omega)).symm | exact (decide_eq_false (by omega)).symm)
      | (simp [retOf]; done)
theorem mul_bd2 {a b : Int} (ha : 0 ≤ a ∧ a ≤ 1099511627776) (hb : -100000 ≤ b ∧ b ≤ 100000) : -109951162777600000 ≤ a * b ∧ a * b ≤ 109951162777600000 := by
  have h : (a * b).natAbs ≤ 1099511627776 * 100000 := by rw [Int.natAbs_mul]; exact Nat.mul_le_mul (by omega) (by omega)
  omega
theorem sh_bd {off dr t : Int} (hoff : -1099511627776 ≤ off ∧ off ≤ 1099511627776) (hdr : -100000 ≤ dr ∧ dr ≤ 100000) (ht : 0 ≤ t ∧ t ≤ 1099511627776) : -4000000000000 ≤ shI off dr t ∧ shI off dr t ≤ 4000000000000 := by
  have hm := mul_bd2 (a := t) (b := dr) ht hdr
  have := fl_bd (a := t * dr) (by omega)
  unfold shI
  omega
set_option maxHeartbeats 2000000 in
theorem ac_show (off dr t v : Int) (hoff : -1099511627776 ≤ off ∧ off ≤ 1099511627776) (hdr : -100000 ≤ dr ∧ dr ≤ 100000) (ht : 0 ≤ t ∧ t ≤ 1099511627776) (hv : shI off dr t = v) : ACalls Tryz.prog 60 [.int .i64 t, .pointer (some ⟨0, 0, none⟩)] [some ⟨[.int .i64 off, .int .i64 dr], false, 1⟩] (.int .i64 v) [none] := by
  have hm := mul_bd2 (a := t) (b := dr) ht hdr
  unfold shI at hv
  obtain ⟨p, hp⟩ : ∃ p, t * dr = p := ⟨_, rfl⟩
  rw [hp] at hm hv
  obtain ⟨f, hf⟩ : ∃ f, flI p = f := ⟨_, rfl⟩
  have hb := fl_bd (a := p) (by omega)
  have H := ac_floor p f (by omega) hf
  rw [hf] at hb hv
  subst hv
  clear hf
  refine acalls_law Tryz.func60 rfl rfl rfl ?_
  repeat' first | refine sd (v := .int .i64 p) (h := by (rw [← hp]; exact ok_mul64 rfl rfl (by omega))) ?_ | refine st ?_ | refine sd_call (H) ?_ | refine run_nil ?_ | refine sd ?_ | refine sdl ?_ | refine rund_nil ?_ | refine Jz ?_ | refine Jw ?_ | refine Jx (id := 1) [0,1,0,7,0,0,32,112,240,511,1023] 11 ?_ | refine aw_ret ?_ | refine pp_ret ?_
  all_goals first
    | rfl
    | (exfalso; omega)
    | (refine congrArg Value.bool ?_; first | exact decide_eq_true (by omega) | exact decide_eq_false (by omega) | exact (decide_eq_true (by omega)).symm | exact (decide_eq_false (by omega)).symm)
    | (show Value.bool _ = Value.bool _; congr 1; first | exact decide_eq_true (by omega) | exact decide_eq_false (by omega) | exact (decide_eq_true (by omega)).symm | exact (decide_eq_false (by omega)).symm)
    | (simp [retOf]; done)
set_option maxHeartbeats 2000000 in
theorem ac_reach1 (off dr t x : Int) (hoff : -1099511627776 ≤ off ∧ off ≤ 1099511627776) (hdr : -100000 ≤ dr ∧ dr ≤ 100000) (ht : 0 ≤ t ∧ t ≤ 1099511627776) (y : Bool) (hy : decide (x ≤ shI off dr t) = y) : ACalls Tryz.prog 63 [.int .i64 t, .pointer (some ⟨0, 0, none⟩), .pointer (some ⟨1, 0, none⟩)] [some ⟨[.func (.func 60) #[] #[.pointer (some ⟨2, 0, none⟩)]], false, 1⟩, some ⟨[.int .i64 x], false, 1⟩, some ⟨[.int .i64 off, .int .i64 dr], false, 1⟩] (.bool y) [none, none, none] := by
  obtain ⟨v, hv⟩ : ∃ v, shI off dr t = v := ⟨_, rfl⟩
  have H := ac_show off dr t v hoff hdr ht hv
  rw [hv] at hy
  have hx := hy
  clear hv hy
  refine acalls_law Tryz.func63 rfl rfl rfl ?_
  repeat' first | refine st ?_ | refine sdRW [2] H ?_ | refine run_nil ?_ | refine sd ?_ | refine sdl ?_ | refine rund_nil ?_ | refine Jz ?_ | refine Jw ?_ | refine Jx (id := 1) [0,1,0,7,0,31,63] 7 ?_ | refine aw_ret ?_ | refine pp_ret ?_
  all_goals first
    | rfl
    | (exfalso; omega)
    | (rw [← hx]; refine congrArg Value.bool ?_; first | exact (decide_eq_true (by omega)).symm | exact (decide_eq_false (by omega)).symm | exact decide_eq_decide.2 (by omega))
    | (rw [← hx]; show Value.bool _ = Value.bool _; congr 1; first | exact (decide_eq_true (by omega)).symm | exact (decide_eq_false (by omega)).symm | exact decide_eq_decide.2 (by omega))
    | (exfalso; simp only [Bool.not_eq_true', Bool.not_eq_false', decide_eq_true_eq, decide_eq_false_iff_not, Bool.not_false, Bool.not_true] at *; omega)
    | (simp [retOf]; done)
structure Wb where
  i : Nat
  j : Nat
set_option maxHeartbeats 4000000 in
theorem ac_search (off dr x : Int) (hoff : -1099511627776 ≤ off ∧ off ≤ 1099511627776) (hdr : -100000 ≤ dr ∧ dr ≤ 100000) (r : Nat) (hr : srch (shQ off dr x) 0 1099511627776 = r) : ACalls Tryz.prog 62 [.int .i64 1099511627776, .func (.func 63) #[] #[.pointer (some ⟨0, 0, none⟩), .pointer (some ⟨1, 0, none⟩)]] [some ⟨[.func (.func 60) #[] #[.pointer (some ⟨2, 0, none⟩)]], false, 1⟩, some ⟨[.int .i64 x], false, 1⟩, some ⟨[.int .i64 off, .int .i64 dr], false, 1⟩] (.int .i64 r) [none, none, none] := by
  refine acalls_law Tryz.func62 rfl rfl rfl ?_
  repeat' first | refine st ?_ | refine run_nil ?_ | refine Jz ?_ | refine Jw ?_ | refine aw_block ?_
  refine aw_loopg
    (S := fun y : Wb => [(0, .int .i64 1099511627776), (1, .func (.func 63) #[] #[.pointer (some ⟨0, 0, none⟩), .pointer (some ⟨1, 0, none⟩)]), (5, .int .i64 y.i), (6, .int .i64 y.j)])
    (B := fun _ : Wb => [some ⟨[.func (.func 60) #[] #[.pointer (some ⟨2, 0, none⟩)]], false, 1⟩, some ⟨[.int .i64 x], false, 1⟩, some ⟨[.int .i64 off, .int .i64 dr], false, 1⟩])
    (R := fun y : Wb => y.i ≤ y.j ∧ y.j ≤ 1099511627776 ∧ srch (shQ off dr x) y.i y.j = r)
    (μ := fun y : Wb => y.j - y.i) ⟨0, 1099511627776⟩ (fitsD [0, 1, 2]) ⟨Nat.zero_le _, Nat.le_refl _, hr⟩ ?_
  clear hr
  rintro ⟨i, j⟩ ⟨g1, g2, g3⟩
  dsimp only at g1 g2 g3 ⊢
  rw [srch] at g3
  by_cases hi : i < j
  · rw [dif_pos hi] at g3
    obtain ⟨h, hh⟩ : ∃ h, (i + j) / 2 = h := ⟨_, rfl⟩
    have hhi : ((i : Int) + j) / 2 ^ (min ((1 : Int)).toNat IntKind.u64.bits) = h := by
      have e : min ((1 : Int)).toNat IntKind.u64.bits = 1 := rfl
      rw [e]
      omega
    rw [hh] at g3
    obtain ⟨y, hy⟩ : ∃ y, decide (x ≤ shI off dr h) = y := ⟨_, rfl⟩
    have H := ac_reach1 off dr h x hoff hdr (by omega) y hy
    have hy2 : shQ off dr x h = y := hy
    rw [hy2] at g3
    clear hy hy2
    cases y
    · rw [if_neg (by decide)] at g3
      repeat' first | refine st (v := .int .u64 h) (h := by (rw [← hhi]; exact ok_shr rfl rfl (by omega))) ?_ | refine st (v := .int .u64 ((i : Int) + j : Int)) (h := ok_conv_in rfl (by (simp [IntKind.min, IntKind.signed, IntKind.bits]; omega)) (by (simp [IntKind.max, IntKind.signed, IntKind.bits]; omega))) ?_ | refine st ?_ | refine stRW [0, 1, 2] H ?_ | refine run_nil ?_ | refine Jz ?_ | refine Jw ?_ | refine aw_block ?_ | refine Jq ?_ | refine Js ?_ | refine Jy ?_
      all_goals first | exact Exists.intro ⟨h + 1, j⟩ ⟨fitsD [0, 1, 2], ⟨by dsimp only; omega, g2, g3⟩, by dsimp only; omega⟩
    · rw [if_pos rfl] at g3
      repeat' first | refine st (v := .int .u64 h) (h := by (rw [← hhi]; exact ok_shr rfl rfl (by omega))) ?_ | refine st (v := .int .u64 ((i : Int) + j : Int)) (h := ok_conv_in rfl (by (simp [IntKind.min, IntKind.signed, IntKind.bits]; omega)) (by (simp [IntKind.max, IntKind.signed, IntKind.bits]; omega))) ?_ | refine st ?_ | refine stRW [0, 1, 2] H ?_ | refine run_nil ?_ | refine Jz ?_ | refine Jw ?_ | refine aw_block ?_ | refine Jr ?_ | refine Js ?_ | refine Jy ?_
      all_goals first | exact Exists.intro ⟨i, h⟩ ⟨fitsD [0, 1, 2], ⟨by dsimp only; omega, by dsimp only; omega, g3⟩, by dsimp only; omega⟩
  · rw [dif_neg hi] at g3
    subst g3
    repeat' first | refine st ?_ | refine run_nil ?_ | refine Jz ?_ | refine Jw ?_ | refine Jt ?_ | refine aw_exit ?_ | refine aw_ret ?_ | refine pp_ret ?_
    all_goals first
      | rfl
      | (exfalso; omega)
      | (refine congrArg Value.bool ?_; first | exact decide_eq_true (by omega) | exact decide_eq_false (by omega) | exact (decide_eq_true (by omega)).symm | exact (decide_eq_false (by omega)).symm)
      | (show Value.bool _ = Value.bool _; congr 1; first | exact decide_eq_true (by omega) | exact decide_eq_false (by omega) | exact (decide_eq_true (by omega)).symm | exact (decide_eq_false (by omega)).symm)
      | (simp [retOf]; done)
set_option maxHeartbeats 4000000 in
theorem ac_reach (off dr x v e : Int) (hoff : -1099511627776 ≤ off ∧ off ≤ 1099511627776) (hdr : -100000 ≤ dr ∧ dr ≤ 100000) (hv : rcI off dr x = v) (he : rcE off dr x = e) : ACalls Tryz.prog 32 [.agg #[.func (.func 60) #[] #[.pointer (some ⟨0, 0, none⟩)]], .int .i64 x] [some ⟨[.int .i64 off, .int .i64 dr], false, 1⟩] (.tuple #[.int .i64 v, .int .i64 e]) [none] := by
  obtain ⟨w, hw⟩ : ∃ v, shI off dr 1099511627776 = v := ⟨_, rfl⟩
  have H := ac_show off dr 1099511627776 w hoff hdr (by omega) hw
  have H2 := ac_search off dr x hoff hdr _ rfl
  unfold rcI at hv
  unfold rcE at he
  rw [hw] at hv he
  by_cases h : w < x
  · rw [if_pos h] at hv he
    subst hv he
    clear hw
    refine acalls_law Tryz.func32 rfl rfl rfl ?_
    repeat' first | refine st ?_ | refine sdRW [0] H ?_ | refine stm ?_ | refine run_nil ?_ | refine sd ?_ | refine sdl ?_ | refine rund_nil ?_ | refine Jz ?_ | refine Jw ?_ | refine Jx (id := 1) [0,1,3,0,15] 5 ?_ | refine Js ?_ | refine aw_ret ?_ | refine pp_ret ?_
    all_goals first
      | rfl
      | (exfalso; omega)
      | (refine congrArg Value.bool ?_; first | exact decide_eq_true (by omega) | exact decide_eq_false (by omega) | exact (decide_eq_true (by omega)).symm | exact (decide_eq_false (by omega)).symm)
      | (show Value.bool _ = Value.bool _; congr 1; first | exact decide_eq_true (by omega) | exact decide_eq_false (by omega) | exact (decide_eq_true (by omega)).symm | exact (decide_eq_false (by omega)).symm)
      | (simp [retOf]; done)
  · rw [if_neg h] at hv he
    subst he
    rw [hv] at H2
    clear hw hv
    refine acalls_law Tryz.func32 rfl rfl rfl ?_
    repeat' first | refine st ?_ | refine stRW [1, 2, 0] H2 ?_ | refine sdRW [0] H ?_ | refine st (h := ok_makeFunc (by ((repeat (apply ArgsR.cons; rfl)); exact ArgsR.nil)) (by ((repeat (apply ArgsR.cons; rfl)); exact ArgsR.nil))) ?_ | refine stm ?_ | refine run_nil ?_ | refine sd ?_ | refine sdl ?_ | refine rund_nil ?_ | refine Jz ?_ | refine Jw ?_ | refine Jx (id := 1) [0,1,3,0,15] 5 ?_ | refine Jt ?_ | refine Jy ?_ | refine aw_ret ?_ | refine pp_ret ?_
    all_goals first
      | rfl
      | (exfalso; omega)
      | (refine congrArg Value.bool ?_; first | exact decide_eq_true (by omega) | exact decide_eq_false (by omega) | exact (decide_eq_true (by omega)).symm | exact (decide_eq_false (by omega)).symm)
      | (show Value.bool _ = Value.bool _; congr 1; first | exact decide_eq_true (by omega) | exact decide_eq_false (by omega) | exact (decide_eq_true (by omega)).symm | exact (decide_eq_false (by omega)).symm)
      | (simp [retOf]; done)
set_option maxHeartbeats 2000000 in
theorem ac_clk (off dr e : Int) (he : ckI off dr = e) : ACalls Tryz.prog 59 [.agg #[.int .i64 off, .int .i64 dr]] [] (.int .i64 e) [] := by
  unfold ckI at he
  by_cases h : -1099511627776 ≤ off ∧ off ≤ 1099511627776 ∧ -100000 ≤ dr ∧ dr ≤ 100000
  · rw [if_pos h] at he
    subst he
    refine acalls_pure Tryz.func59 rfl rfl rfl ?_
    repeat' first | refine st ?_ | refine stm ?_ | refine Ja ?_ | refine Jf ?_ | refine run_nil ?_ | refine Jz ?_ | refine Jw ?_ | refine Jt ?_ | refine Jy ?_ | refine aw_ret ?_ | refine pp_ret ?_
    all_goals first
      | rfl
      | (exfalso; omega)
      | (refine congrArg Value.bool ?_; first | exact decide_eq_true (by omega) | exact decide_eq_false (by omega) | exact (decide_eq_true (by omega)).symm | exact (decide_eq_false (by omega)).symm)
      | (show Value.bool _ = Value.bool _; congr 1; first | exact decide_eq_true (by omega) | exact decide_eq_false (by omega) | exact (decide_eq_true (by omega)).symm | exact (decide_eq_false (by omega)).symm)
      | (simp [retOf]; done)
  · rw [if_neg h] at he
    subst he
    refine acalls_pure Tryz.func59 rfl rfl rfl ?_
    repeat' first | intro h1 | refine st ?_ | refine stm ?_ | refine Ja ?_ | refine Jb ?_ | refine Ji ?_ ?_ | refine run_nil ?_ | refine Jz ?_ | refine Jw ?_ | refine Jq ?_ | refine Js ?_ | refine aw_ret ?_ | refine pp_ret ?_
    all_goals first
      | rfl
      | (exfalso; omega)
      | (refine congrArg Value.bool ?_; first | exact decide_eq_true (by omega) | exact decide_eq_false (by omega) | exact (decide_eq_true (by omega)).symm | exact (decide_eq_false (by omega)).symm)
      | (show Value.bool _ = Value.bool _; congr 1; first | exact decide_eq_true (by omega) | exact decide_eq_false (by omega) | exact (decide_eq_true (by omega)).symm | exact (decide_eq_false (by omega)).symm)
      | (simp [retOf]; done)
set_option maxHeartbeats 2000000 in
theorem ac_cchk (off dr slot e : Int) (he : csI off dr slot = e) : ACalls Tryz.prog 30 [.agg #[.int .i64 off, .int .i64 dr], .int .i64 slot] [] (.int .i64 e) [] := by
  obtain ⟨c, hc⟩ : ∃ c, ckI off dr = c := ⟨_, rfl⟩
  have H := ac_clk off dr c hc
  unfold csI at he
  rw [hc] at he
  clear hc
  by_cases h0 : c = 0
  · rw [if_pos h0] at he
    subst h0
    by_cases h : 0 ≤ slot ∧ slot ≤ 109951162
    · rw [if_pos h] at he
      subst he
      refine acalls_pure Tryz.func30 rfl rfl rfl ?_
      repeat' first | refine st ?_ | refine st_call (H) ?_ | refine stm ?_ | refine Ja ?_ | refine Jf ?_ | refine run_nil ?_ | refine Jz ?_ | refine Jw ?_ | refine aw_block ?_ | refine Jr ?_ | refine Jt ?_ | refine Jy ?_ | refine aw_ret ?_ | refine pp_ret ?_
      all_goals first
        | rfl
        | (exfalso; omega)
        | (refine congrArg Value.bool ?_; first | exact decide_eq_true (by omega) | exact decide_eq_false (by omega) | exact (decide_eq_true (by omega)).symm | exact (decide_eq_false (by omega)).symm)
        | (show Value.bool _ = Value.bool _; congr 1; first | exact decide_eq_true (by omega) | exact decide_eq_false (by omega) | exact (decide_eq_true (by omega)).symm | exact (decide_eq_false (by omega)).symm)
        | (simp [retOf]; done)
    · rw [if_neg h] at he
      subst he
      refine acalls_pure Tryz.func30 rfl rfl rfl ?_
      repeat' first | intro h1 | refine st ?_ | refine st_call (H) ?_ | refine stm ?_ | refine Ja ?_ | refine Jb ?_ | refine Ji ?_ ?_ | refine run_nil ?_ | refine Jz ?_ | refine Jw ?_ | refine aw_block ?_ | refine Jq ?_ | refine Jr ?_ | refine Js ?_ | refine aw_ret ?_ | refine pp_ret ?_
      all_goals first
        | rfl
        | (exfalso; omega)
        | (refine congrArg Value.bool ?_; first | exact decide_eq_true (by omega) | exact decide_eq_false (by omega) | exact (decide_eq_true (by omega)).symm | exact (decide_eq_false (by omega)).symm)
        | (show Value.bool _ = Value.bool _; congr 1; first | exact decide_eq_true (by omega) | exact decide_eq_false (by omega) | exact (decide_eq_true (by omega)).symm | exact (decide_eq_false (by omega)).symm)
        | (simp [retOf]; done)
  · rw [if_neg h0] at he
    subst he
    refine acalls_pure Tryz.func30 rfl rfl rfl ?_
    repeat' first | refine st ?_ | refine st_call (H) ?_ | refine stm ?_ | refine run_nil ?_ | refine Jz ?_ | refine Jw ?_ | refine aw_block ?_ | refine Js ?_ | refine aw_ret ?_ | refine pp_ret ?_
    all_goals first
      | rfl
      | (exfalso; omega)
      | (refine congrArg Value.bool ?_; first | exact decide_eq_true (by omega) | exact decide_eq_false (by omega) | exact (decide_eq_true (by omega)).symm | exact (decide_eq_false (by omega)).symm)
      | (show Value.bool _ = Value.bool _; congr 1; first | exact decide_eq_true (by omega) | exact decide_eq_false (by omega) | exact (decide_eq_true (by omega)).symm | exact (decide_eq_false (by omega)).symm)
      | (simp [retOf]; done)
theorem ac_of (off dr : Int) : ACalls Tryz.prog 31 [.agg #[.int .i64 off, .int .i64 dr]] [] (.agg #[.func (.func 60) #[] #[.pointer (some ⟨0, 0, none⟩)]]) [some ⟨[.int .i64 off, .int .i64 dr], true, 1⟩] := by
  refine acalls_of_aw Tryz.func31 rfl rfl ?_
  repeat' first | refine st ?_ | refine st (h := ok_makeFunc (by ((repeat (apply ArgsR.cons; rfl)); exact ArgsR.nil)) (by ((repeat (apply ArgsR.cons; rfl)); exact ArgsR.nil))) ?_ | refine stm ?_ | refine run_nil ?_ | refine Jz ?_ | refine Jw ?_ | refine aw_ret ?_
  all_goals first | exact pm_ret _ (renumD [0]) rfl
theorem cs_ok {off dr slot : Int} (h : csI off dr slot = 0) : (-1099511627776 ≤ off ∧ off ≤ 1099511627776) ∧ (-100000 ≤ dr ∧ dr ≤ 100000) ∧ 0 ≤ slot ∧ slot ≤ 109951162 := by
  unfold csI ckI at h
  by_cases h1 : -1099511627776 ≤ off ∧ off ≤ 1099511627776 ∧ -100000 ≤ dr ∧ dr ≤ 100000
  · rw [if_pos h1, if_pos rfl] at h
    by_cases h2 : 0 ≤ slot ∧ slot ≤ 109951162
    · omega
    · rw [if_neg h2] at h
      omega
  · rw [if_neg h1, if_neg (by decide)] at h
    omega
theorem cs_cases (off dr slot : Int) : csI off dr slot = 0 ∨ csI off dr slot = 1 ∨ csI off dr slot = 2 := by
  unfold csI
  split
  · split
    · exact .inl rfl
    · exact .inr (.inr rfl)
  · exact .inr (.inl rfl)
def seI (off dr slot : Int) : Int := if csI off dr slot = 0 then rcI off dr (slot * 10000 + 2120) else 0
def seE (off dr slot : Int) : Int := if csI off dr slot = 0 then rcE off dr (slot * 10000 + 2120) else csI off dr slot
set_option maxHeartbeats 4000000 in
theorem ac_send (off dr slot v e : Int) (hv : seI off dr slot = v) (he : seE off dr slot = e) : ACalls Tryz.prog 14 [.agg #[.int .i64 off, .int .i64 dr], .int .i64 slot] [] (.tuple #[.int .i64 v, .int .i64 e]) [] := by
  obtain ⟨c, hc⟩ : ∃ c, csI off dr slot = c := ⟨_, rfl⟩
  have H := ac_cchk off dr slot c hc
  unfold seI at hv
  unfold seE at he
  rw [hc] at hv he
  by_cases h0 : c = 0
  · subst h0
    obtain ⟨h1, h2, h3, h4⟩ := cs_ok hc
    rw [if_pos rfl] at hv he
    have H1 := ac_of off dr
    have H2 := ac_reach off dr (slot * 10000 + 2120) v e h1 h2 hv he
    clear hc hv he
    refine acalls_pure Tryz.func14 rfl rfl rfl ?_
    repeat' first | refine st ?_ | refine st_call (H) ?_ | refine stMW [] H1 ?_ | refine stRW [1] H2 ?_ | refine stm ?_ | refine run_nil ?_ | refine Jz ?_ | refine Jw ?_ | refine Jr ?_ | refine Jy ?_ | refine aw_ret ?_ | refine pp_ret ?_
    all_goals first
      | rfl
      | (exfalso; omega)
      | (refine congrArg Value.bool ?_; first | exact decide_eq_true (by omega) | exact decide_eq_false (by omega) | exact (decide_eq_true (by omega)).symm | exact (decide_eq_false (by omega)).symm)
      | (show Value.bool _ = Value.bool _; congr 1; first | exact decide_eq_true (by omega) | exact decide_eq_false (by omega) | exact (decide_eq_true (by omega)).symm | exact (decide_eq_false (by omega)).symm)
      | (simp [retOf]; done)
  · rw [if_neg h0] at hv he
    subst hv he
    clear hc
    refine acalls_pure Tryz.func14 rfl rfl rfl ?_
    repeat' first | refine st ?_ | refine st_call (H) ?_ | refine stm ?_ | refine run_nil ?_ | refine Jz ?_ | refine Jw ?_ | refine Js ?_ | refine aw_ret ?_ | refine pp_ret ?_
    all_goals first
      | rfl
      | (exfalso; omega)
      | (refine congrArg Value.bool ?_; first | exact decide_eq_true (by omega) | exact decide_eq_false (by omega) | exact (decide_eq_true (by omega)).symm | exact (decide_eq_false (by omega)).symm)
      | (show Value.bool _ = Value.bool _; congr 1; first | exact decide_eq_true (by omega) | exact decide_eq_false (by omega) | exact (decide_eq_true (by omega)).symm | exact (decide_eq_false (by omega)).symm)
      | (simp [retOf]; done)
end Go.Proofs.YtdenooeaiicheaaGreat
