/- Gossip: plain functions. Gossip: Check. Gossip: Valid. -/
import Derived.Test.YtekkdoaakilafaaVL
import Derived.Test.YtekkdoaakilafaaVI
import Derived.Test.YtekkdoaakilafaaJ
set_option linter.unusedVariables false
set_option linter.unusedSimpArgs false
namespace Go.Proofs.Ytekkdoaakilafaa
open Go Av
set_option maxRecDepth 20000
theorem pow8 (k : Nat) (h : k ≤ 8) : 1 ≤ (2 : Int) ^ k ∧ (2 : Int) ^ k ≤ 256 := by
  have : k = 0 ∨ k = 1 ∨ k = 2 ∨ k = 3 ∨ k = 4 ∨ k = 5 ∨ k = 6 ∨ k = 7 ∨ k = 8 := by omega
  rcases this with rfl | rfl | rfl | rfl | rfl | rfl | rfl | rfl | rfl <;> decide
theorem lpow (l : Int) (k : Nat) (h : k ≤ 8) (h1 : 2 ≤ l) (h2 : l ≤ 1024) : l ≤ l * 2 ^ k ∧ l * 2 ^ k ≤ 262144 := by
  have : k = 0 ∨ k = 1 ∨ k = 2 ∨ k = 3 ∨ k = 4 ∨ k = 5 ∨ k = 6 ∨ k = 7 ∨ k = 8 := by omega
  rcases this with rfl | rfl | rfl | rfl | rfl | rfl | rfl | rfl | rfl <;> simp <;> omega
def gok (l d e : Int) : Bool := decide (2 ≤ l ∧ l ≤ 1024 ∧ 0 ≤ d ∧ d ≤ 8 ∧ 0 ≤ e ∧ e ≤ 16)
theorem gok_t {l d e : Int} (h : gok l d e = true) : 2 ≤ l ∧ l ≤ 1024 ∧ 0 ≤ d ∧ d ≤ 8 ∧ 0 ≤ e ∧ e ≤ 16 := by simpa [gok] using h
theorem gok_f {l d e : Int} (h : gok l d e = false) : ¬ (2 ≤ l ∧ l ≤ 1024 ∧ 0 ≤ d ∧ d ≤ 8 ∧ 0 ≤ e ∧ e ≤ 16) := by
  unfold gok at h; exact of_decide_eq_false h
def gE (l d e : Int) : Int := if gok l d e = true then 0 else 2
/-- One of the first k lengths is i. -/
def kn (i l : Int) : Nat → Bool
  | 0 => false
  | k + 1 => kn i l k || (i == l * 2 ^ k)
theorem kn_iff (i l : Int) : ∀ k, kn i l k = true ↔ ∃ j, j < k ∧ i = l * 2 ^ j
  | 0 => by simp [kn]
  | k + 1 => by
    simp only [kn, Bool.or_eq_true, kn_iff i l k, beq_iff_eq]
    constructor
    · rintro (⟨j, hj, e⟩ | e)
      · exact ⟨j, by omega, e⟩
      · exact ⟨k, by omega, e⟩
    · rintro ⟨j, hj, e⟩
      by_cases h : j = k
      · subst h; exact .inr e
      · exact .inl ⟨j, by omega, e⟩
theorem kn_bd {i l : Int} {k : Nat} (h : kn i l k = true) (hk : k ≤ 9) (h1 : 2 ≤ l) (h2 : l ≤ 1024) : l ≤ i ∧ i ≤ 262144 := by
  obtain ⟨j, hj, e⟩ := (kn_iff i l k).1 h
  have := lpow l j (by omega) h1 h2
  omega
structure Rm where
  i : Int
  b : Int
  p : Int
  h : Int
  deriving DecidableEq
def vok (l d : Int) (r : Rm) : Bool := kn r.i l (d + 1).toNat && decide (0 ≤ r.b ∧ r.b ≤ 1073741824 ∧ r.b + r.i / 2 ≤ r.p ∧ r.p < r.b + r.i ∧ 0 ≤ r.h ∧ r.h ≤ 1048576)
/-- The error of a state. -/
def vE (l d e : Int) (r : Rm) : Int := if gok l d e = true then (if vok l d r = true then 0 else 1) else 2
theorem vE_g {l d e : Int} {r : Rm} (h : gok l d e = false) : 2 = vE l d e r := by simp [vE, h]
theorem vE_k {l d e i b p h : Int} (hk : gok l d e = true) (h1 : kn i l (d + 1).toNat = false) : 1 = vE l d e ⟨i, b, p, h⟩ := by simp [vE, hk, vok, h1]
theorem vE_1 {l d e i b p h : Int} (hk : gok l d e = true) (h1 : ¬ (0 ≤ b ∧ b ≤ 1073741824 ∧ b + i / 2 ≤ p ∧ p < b + i ∧ 0 ≤ h ∧ h ≤ 1048576)) : 1 = vE l d e ⟨i, b, p, h⟩ := by
  simp only [vE, hk, vok, decide_eq_false h1]; simp
theorem vE_0 {l d e i b p h : Int} (hk : gok l d e = true) (h0 : kn i l (d + 1).toNat = true) (h1 : 0 ≤ b ∧ b ≤ 1073741824 ∧ b + i / 2 ≤ p ∧ p < b + i ∧ 0 ≤ h ∧ h ≤ 1048576) : 0 = vE l d e ⟨i, b, p, h⟩ := by
  simp only [vE, hk, vok, h0, decide_eq_true h1]; simp
/-- An interval of length n begins in slot s. -/
def bgn (n s x : Int) : Rm := ⟨n, s, s + n / 2 + x % (n - n / 2), 0⟩
def zR : Rm := ⟨0, 0, 0, 0⟩
def stE (l d e s : Int) : Int := if gok l d e = true then (if 0 ≤ s ∧ s ≤ 1073741824 then 0 else 2) else 2
def stR (l d e s x : Int) : Rm := if stE l d e s = 0 then bgn l s x else zR
/-- The error of a state and a slot. -/
def cE (l d e : Int) (r : Rm) (s : Int) : Int := if vE l d e r = 0 then (if 0 ≤ s ∧ s ≤ 1073741824 then (if s < r.b then 5 else 0) else 2) else vE l d e r
def quiet (e : Int) (r : Rm) : Bool := e == 0 || decide (r.h < e)
def top (l d : Int) : Int := l * 2 ^ d.toNat
def nxt (l d : Int) (r : Rm) (s x : Int) : Rm := if r.b + r.i ≤ s then bgn (if top l d < 2 * r.i then top l d else 2 * r.i) s x else r
def spR (l d e : Int) (r : Rm) (s x : Int) : Rm := if cE l d e r s = 0 then nxt l d r s x else zR
def spB (l d e : Int) (r : Rm) (s x : Int) : Bool := if cE l d e r s = 0 then (s == (nxt l d r s x).p && quiet e (nxt l d r s x)) else false
def hr (l : Int) (r : Rm) (q : Bool) (s x : Int) : Rm := if q = true then ⟨r.i, r.b, r.p, if 1048576 < r.h + 1 then 1048576 else r.h + 1⟩ else if l < r.i then bgn l s x else r
def hrR (l d e : Int) (r : Rm) (q : Bool) (s x : Int) : Rm := if cE l d e r s = 0 then hr l r q s x else zR
structure Ok (l d e : Int) (r : Rm) (s : Int) : Prop where
  g : gok l d e = true
  l1 : 2 ≤ l
  l2 : l ≤ 1024
  d1 : 0 ≤ d
  d2 : d ≤ 8
  e1 : 0 ≤ e
  e2 : e ≤ 16
  i1 : l ≤ r.i
  i2 : r.i ≤ 262144
  b1 : 0 ≤ r.b
  b2 : r.b ≤ 1073741824
  p1 : r.b + r.i / 2 ≤ r.p
  p2 : r.p < r.b + r.i
  h1 : 0 ≤ r.h
  h2 : r.h ≤ 1048576
  s1 : 0 ≤ s
  s2 : s ≤ 1073741824
  s3 : r.b ≤ s
theorem vE_out {l d e : Int} {r : Rm} (h : vE l d e r = 0) : gok l d e = true ∧ vok l d r = true := by
  unfold vE at h
  split at h
  · split at h
    · constructor <;> assumption
    · omega
  · omega
theorem cE_out {l d e : Int} {r : Rm} {s : Int} (h : cE l d e r s = 0) : Ok l d e r s := by
  unfold cE at h
  split at h
  · rename_i hv
    obtain ⟨hg, hk⟩ := vE_out hv
    obtain ⟨h1, h2, h3, h4, h5, h6⟩ := gok_t hg
    unfold vok at hk
    simp only [Bool.and_eq_true, decide_eq_true_eq] at hk
    obtain ⟨k1, k2, k3, k4, k5, k6, k7⟩ := hk
    obtain ⟨i1, i2⟩ := kn_bd k1 (by omega) h1 h2
    split at h
    · split at h
      · omega
      · constructor <;> first | assumption | omega
    · omega
  · exact absurd h ‹_›

theorem md_bd (n x : Int) (hn : 2 ≤ n) (hn2 : n ≤ 262144) : 0 ≤ x % (n - n / 2) ∧ x % (n - n / 2) < n - n / 2 ∧ 1 ≤ n / 2 ∧ n / 2 < n := by
  have h : 0 < n - n / 2 := by omega
  exact ⟨Int.emod_nonneg _ (by omega), Int.emod_lt_of_pos _ h, by omega, by omega⟩

theorem gE_0 {l d e : Int} (h : 2 ≤ l ∧ l ≤ 1024 ∧ 0 ≤ d ∧ d ≤ 8 ∧ 0 ≤ e ∧ e ≤ 16) : 0 = gE l d e := by simp only [gE, gok, decide_eq_true h]; simp
theorem gE_2 {l d e : Int} (h : ¬ (2 ≤ l ∧ l ≤ 1024 ∧ 0 ≤ d ∧ d ≤ 8 ∧ 0 ≤ e ∧ e ≤ 16)) : 2 = gE l d e := by simp only [gE, gok, decide_eq_false h]; simp
theorem cE_0 {l d e : Int} {r : Rm} {s : Int} (h : (vE l d e r != 0) = false) (h1 : 0 ≤ s ∧ s ≤ 1073741824) (h2 : ¬ s < r.b) : 0 = cE l d e r s := by
  simp at h; simp only [cE, h, if_true, if_pos h1, if_neg h2]

theorem vE_k0 {l d e : Int} {r : Rm} (hg : gok l d e = true) (hk : kn r.i l (d + 1).toNat = true) (h : 0 ≤ r.b ∧ r.b ≤ 1073741824 ∧ r.b + r.i / 2 ≤ r.p ∧ r.p < r.b + r.i ∧ 0 ≤ r.h ∧ r.h ≤ 1048576) : vE l d e r = 0 := by
  simp only [vE, hg, vok, hk, decide_eq_true h]; simp
theorem ok_b {l d e : Int} {r : Rm} (h : vE l d e r = 0) : 0 ≤ r.b ∧ r.b ≤ 1073741824 := by
  have := (vE_out h).2
  unfold vok at this
  simp only [Bool.and_eq_true, decide_eq_true_eq] at this
  omega
theorem cE_ok {l d e : Int} {r : Rm} {s : Int} (h : vE l d e r = 0) (h1 : 0 ≤ s) (h2 : s ≤ 1073741824) (h3 : r.b ≤ s) : cE l d e r s = 0 :=
  (cE_0 (by simp [h]) ⟨h1, h2⟩ (by omega)).symm
theorem vE_ok {l d e : Int} {r : Rm} (h : vE l d e r = 0) : gok l d e = true ∧ 2 ≤ l ∧ l ≤ 1024 ∧ 0 ≤ d ∧ d ≤ 8 ∧ 0 ≤ e ∧ e ≤ 16 ∧ l ≤ r.i ∧ r.i ≤ 262144 ∧ 0 ≤ r.b ∧ r.b ≤ 1073741824 ∧ r.b + r.i / 2 ≤ r.p ∧ r.p < r.b + r.i ∧ 0 ≤ r.h ∧ r.h ≤ 1048576 := by
  have hc := cE_out (cE_ok (s := r.b) h (ok_b h).1 (ok_b h).2 (Int.le_refl _))
  exact ⟨hc.g, hc.l1, hc.l2, hc.d1, hc.d2, hc.e1, hc.e2, hc.i1, hc.i2, hc.b1, hc.b2, hc.p1, hc.p2, hc.h1, hc.h2⟩
theorem top_bd {l d e : Int} (hg : gok l d e = true) : l ≤ top l d ∧ top l d ≤ 262144 := by
  obtain ⟨l1, l2, d1, d2, e1, e2⟩ := gok_t hg
  exact lpow l d.toNat (by omega) l1 l2
theorem kn_0 {l d : Int} (h : 0 ≤ d) : kn l l (d + 1).toNat = true := (kn_iff _ _ _).2 ⟨0, by omega, by simp⟩
theorem wrap_i64 {x : Int} (h1 : -9223372036854775808 ≤ x) (h2 : x ≤ 9223372036854775807) : IntKind.i64.wrap x = x := wrap_id (by simp [IntKind.min, IntKind.signed, IntKind.bits]; omega) (by simp [IntKind.max, IntKind.signed, IntKind.bits]; omega)
theorem shl_l {l : Int} {k : Nat} (h : k ≤ 8) (h1 : 2 ≤ l) (h2 : l ≤ 1024) : IntKind.i64.wrap (l * 2 ^ (min (k : Int).toNat IntKind.i64.bits)) = l * 2 ^ k := by
  rw [show min (k : Int).toNat IntKind.i64.bits = k from Nat.min_eq_left (by show k ≤ 64; omega)]
  have := lpow l k h h1 h2
  exact wrap_i64 (by omega) (by omega)
theorem ok_shlE {P : Program} {ρ : Operand → Option Value} {m : Mem} {d : Option Tmp} {t : TypeId} {pp : String} {af : Array Edge} {g : Option (Nat × Bool)} {xt x y yt k k' a b} {c : Int} (hc : k.wrap (a * 2 ^ (min b.toNat k.bits)) = c) (hx : ρ x = some (.int k a)) (hy : ρ y = some (.int k' b)) (h : 0 ≤ b) : OpOK P ⟨d, .binOp .shl xt x y yt, t, pp, af, g⟩ ρ m (.int k c) m := hc ▸ ok_shl hx hy h
end Go.Proofs.Ytekkdoaakilafaa
namespace Go.Proofs.Ytekkdoaakilafaa
open Go Av
set_option maxRecDepth 20000
theorem ac_within (n l h : Int) : ACalls Try.prog 72 [.int .i64 n, .int .i64 l, .int .i64 h] [] (.bool (decide (l ≤ n ∧ n ≤ h))) [] := by
  refine acalls_pure Try.func72 rfl rfl rfl ?_
  repeat' first | intro h1 | refine st ?_ | refine stm ?_ | refine Ja ?_ | refine Jb ?_ | refine Jc ?_ | refine Jd ?_ | refine Je ?_ | refine Jf ?_ | refine Jg ?_ | refine Jh ?_ ?_ | refine Ji ?_ ?_ | refine Jj ?_ ?_ | refine run_nil ?_ | refine Jz ?_ | refine Jw ?_ | refine aw_block ?_ | refine Jq ?_ | refine Jr ?_ | refine Js ?_ | refine Jt ?_ | refine Ju ?_ ?_ | refine Jv ?_ ?_ | refine Jy ?_ | refine aw_exit ?_ | refine aw_ret ?_ | refine pp_ret ?_ | refine pp_normal ?_
  all_goals first | (show Value.bool _ = Value.bool _; congr 1; first | exact (decide_eq_false (by omega)).symm | exact (decide_eq_true (by omega)).symm | exact decide_eq_decide.2 (by omega))
theorem ac_gcheck (l d e : Int) (x : Int) (hx : gE l d e = x) : ACalls Try.prog 32 [.agg #[.int .i64 l, .int .i64 d, .int .i64 e]] [] (.int .i64 x) [] := by
  by_cases hg : 2 ≤ l ∧ l ≤ 1024 ∧ 0 ≤ d ∧ d ≤ 8 ∧ 0 ≤ e ∧ e ≤ 16
  · obtain rfl : x = 0 := by rw [← hx]; exact (gE_0 hg).symm
    clear hx
    refine acalls_law Try.func32 rfl rfl rfl ?_
    repeat' first | intro h1 | refine st ?_ | refine st_call (ac_within _ _ _) ?_ | refine sd_call (ac_within _ _ _) ?_ | refine stm ?_ | refine Ja ?_ | refine Jb ?_ | refine Jc ?_ | refine Jd ?_ | refine Je ?_ | refine Jf ?_ | refine Jg ?_ | refine Jh ?_ ?_ | refine Ji ?_ ?_ | refine Jj ?_ ?_ | refine run_nil ?_ | refine Jz ?_ | refine Jw ?_ | refine aw_block ?_ | refine Jq ?_ | refine Jr ?_ | refine Js ?_ | refine Jt ?_ | refine Ju ?_ ?_ | refine Jv ?_ ?_ | refine Jy ?_ | refine aw_exit ?_ | refine aw_ret ?_ | refine pp_ret ?_ | refine pp_normal ?_
    all_goals first | rfl | (exfalso; omega) | (exfalso; simp only [Bool.not_eq_true', Bool.not_eq_false', decide_eq_true_eq, decide_eq_false_iff_not, Bool.not_false, Bool.not_true] at *; omega)
  · obtain rfl : x = 2 := by rw [← hx]; exact (gE_2 hg).symm
    clear hx
    refine acalls_law Try.func32 rfl rfl rfl ?_
    repeat' first | intro h1 | refine st ?_ | refine st_call (ac_within _ _ _) ?_ | refine sd_call (ac_within _ _ _) ?_ | refine stm ?_ | refine Ja ?_ | refine Jb ?_ | refine Jc ?_ | refine Jd ?_ | refine Je ?_ | refine Jf ?_ | refine Jg ?_ | refine Jh ?_ ?_ | refine Ji ?_ ?_ | refine Jj ?_ ?_ | refine run_nil ?_ | refine Jz ?_ | refine Jw ?_ | refine aw_block ?_ | refine Jq ?_ | refine Jr ?_ | refine Js ?_ | refine Jt ?_ | refine Ju ?_ ?_ | refine Jv ?_ ?_ | refine Jy ?_ | refine aw_exit ?_ | refine aw_ret ?_ | refine pp_ret ?_ | refine pp_normal ?_
    all_goals first | rfl | (exfalso; omega) | (exfalso; simp only [Bool.not_eq_true', Bool.not_eq_false', decide_eq_true_eq, decide_eq_false_iff_not, Bool.not_false, Bool.not_true] at *; omega)
end Go.Proofs.Ytekkdoaakilafaa
namespace Go.Proofs.Ytekkdoaakilafaa
open Go Av
set_option maxRecDepth 20000
theorem ac_inside (n l h : Int) : ACalls Try.prog 74 [.int .i64 n, .int .i64 l, .int .i64 h] [] (.bool (decide (l ≤ n ∧ n < h))) [] := by
  refine acalls_pure Try.func74 rfl rfl rfl ?_
  repeat' first | intro h1 | refine st ?_ | refine stm ?_ | refine Ja ?_ | refine Jb ?_ | refine Jc ?_ | refine Jd ?_ | refine Je ?_ | refine Jf ?_ | refine Jg ?_ | refine Jh ?_ ?_ | refine Ji ?_ ?_ | refine Jj ?_ ?_ | refine run_nil ?_ | refine Jz ?_ | refine Jw ?_ | refine aw_block ?_ | refine Jq ?_ | refine Jr ?_ | refine Js ?_ | refine Jt ?_ | refine Ju ?_ ?_ | refine Jv ?_ ?_ | refine Jy ?_ | refine aw_exit ?_ | refine aw_ret ?_ | refine pp_ret ?_ | refine pp_normal ?_
  all_goals first | (show Value.bool _ = Value.bool _; congr 1; first | exact (decide_eq_false (by omega)).symm | exact (decide_eq_true (by omega)).symm | exact decide_eq_decide.2 (by omega))
structure VgG where
  k : Nat
  z : Bool
set_option maxHeartbeats 2000000 in
theorem ac_valid0 (l d e i b p h : Int) (hv : vE l d e ⟨i, b, p, h⟩ = 0) : ACalls Try.prog 34 [.agg #[.int .i64 l, .int .i64 d, .int .i64 e], .agg #[.int .i64 i, .int .i64 b, .int .i64 p, .int .i64 h]] [] (.int .i64 0) [] := by
  obtain ⟨hg, l1, l2, d1, d2, e1, e2, i1, i2, b1, b2, p1, p2, h1, h2⟩ := vE_ok hv
  dsimp only at i1 i2 b1 b2 p1 p2 h1 h2
  have hk : kn i l (d + 1).toNat = true := by
    have := (vE_out hv).2
    unfold vok at this
    simp only [Bool.and_eq_true] at this
    exact this.1
  have HC := ac_gcheck l d e 0 (gE_0 (by omega)).symm
  refine acalls_law Try.func34 rfl rfl rfl ?_
  repeat' first | intro h1 | refine st ?_ | refine st_call HC ?_ | refine stm ?_ | refine Ja ?_ | refine Jb ?_ | refine Jc ?_ | refine Jd ?_ | refine Je ?_ | refine Jf ?_ | refine Jg ?_ | refine Jh ?_ ?_ | refine Ji ?_ ?_ | refine Jj ?_ ?_ | refine run_nil ?_ | refine sd ?_ | refine sdl ?_ | refine sdm (n := 1) ?_ | refine sdm ?_ | refine sdb ?_ | refine Jk ?_ | refine Jl ?_ | refine Jm ?_ | refine Jn ?_ ?_ | refine Jo ?_ ?_ | refine Jp ?_ ?_ | refine rund_nil ?_ | refine Jz ?_ | refine Jw ?_ | refine Jx (id := 8) [0,1,3,7,3,19,3,115,255,511,1023] 11 ?_ | refine aw_block ?_ | refine Jq ?_ | refine Jr ?_ | refine Js ?_ | refine Jt ?_ | refine Ju ?_ ?_ | refine Jv ?_ ?_ | refine Jy ?_ | refine aw_exit ?_ | refine aw_ret ?_ | refine pp_ret ?_ | refine pp_normal ?_
  refine aw_loopg
    (S := fun y : VgG => [(2, .pointer (some ⟨0, 0, none⟩)), (3, .pointer (some ⟨1, 0, none⟩)), (6, .bool y.z), (16, .int .i64 (d + 1)), (17, .int .i64 y.k)])
    (B := fun _ : VgG => [some ⟨[.int .i64 l, .int .i64 d, .int .i64 e], true, 1⟩, some ⟨[.int .i64 i, .int .i64 b, .int .i64 p, .int .i64 h], true, 1⟩])
    (R := fun y : VgG => y.k ≤ (d + 1).toNat ∧ y.z = kn i l y.k)
    (μ := fun y : VgG => (d + 1).toNat - y.k) ⟨0, false⟩ (fitsD [0, 1]) ⟨Nat.zero_le _, rfl⟩ ?_
  rintro ⟨k, z⟩ ⟨g1, g2⟩
  dsimp only at *
  by_cases hlt : k < (d + 1).toNat
  · have hs := shl_l (l := l) (k := k) (by omega) l1 l2
    cases z
    · by_cases hi : i = l * 2 ^ k
      · have hn : kn i l (k + 1) = true := by rw [kn, ← g2, beq_iff_eq.2 hi]; rfl
        repeat' first | intro h1 | refine sd (h := ok_shlE hs rfl rfl (by omega)) ?_ | refine st ?_ | refine stm ?_ | refine Ja ?_ | refine Jb ?_ | refine Jc ?_ | refine Jd ?_ | refine Je ?_ | refine Jf ?_ | refine Jg ?_ | refine Jh ?_ ?_ | refine Ji ?_ ?_ | refine Jj ?_ ?_ | refine run_nil ?_ | refine sd ?_ | refine sdl ?_ | refine sdm (n := 1) ?_ | refine sdm ?_ | refine sdb ?_ | refine Jk ?_ | refine Jl ?_ | refine Jm ?_ | refine Jn ?_ ?_ | refine Jo ?_ ?_ | refine Jp ?_ ?_ | refine rund_nil ?_ | refine Jz ?_ | refine Jw ?_ | refine Jx (id := 8) [0,1,3,7,3,19,3,115,255,511,1023] 11 ?_ | refine aw_block ?_ | refine Jq ?_ | refine Jr ?_ | refine Js ?_ | refine Jt ?_ | refine Ju ?_ ?_ | refine Jv ?_ ?_ | refine Jy ?_ | refine aw_exit ?_ | refine aw_ret ?_ | refine pp_ret ?_ | refine pp_normal ?_
        all_goals first | exact Exists.intro ⟨k + 1, _⟩ ⟨fitsD [0, 1], ⟨by dsimp only; omega, by dsimp only; rw [hn]; first | done | rfl | exact decide_eq_true hi | exact decide_eq_false hi⟩, by dsimp only; omega⟩ | (exfalso; omega)
      · have hn : kn i l (k + 1) = false := by rw [kn, ← g2, beq_eq_false_iff_ne.2 hi]; rfl
        repeat' first | intro h1 | refine sd (h := ok_shlE hs rfl rfl (by omega)) ?_ | refine st ?_ | refine stm ?_ | refine Ja ?_ | refine Jb ?_ | refine Jc ?_ | refine Jd ?_ | refine Je ?_ | refine Jf ?_ | refine Jg ?_ | refine Jh ?_ ?_ | refine Ji ?_ ?_ | refine Jj ?_ ?_ | refine run_nil ?_ | refine sd ?_ | refine sdl ?_ | refine sdm (n := 1) ?_ | refine sdm ?_ | refine sdb ?_ | refine Jk ?_ | refine Jl ?_ | refine Jm ?_ | refine Jn ?_ ?_ | refine Jo ?_ ?_ | refine Jp ?_ ?_ | refine rund_nil ?_ | refine Jz ?_ | refine Jw ?_ | refine Jx (id := 8) [0,1,3,7,3,19,3,115,255,511,1023] 11 ?_ | refine aw_block ?_ | refine Jq ?_ | refine Jr ?_ | refine Js ?_ | refine Jt ?_ | refine Ju ?_ ?_ | refine Jv ?_ ?_ | refine Jy ?_ | refine aw_exit ?_ | refine aw_ret ?_ | refine pp_ret ?_ | refine pp_normal ?_
        all_goals first | exact Exists.intro ⟨k + 1, _⟩ ⟨fitsD [0, 1], ⟨by dsimp only; omega, by dsimp only; rw [hn]; first | done | rfl | exact decide_eq_true hi | exact decide_eq_false hi⟩, by dsimp only; omega⟩ | (exfalso; omega)
    · have hn : kn i l (k + 1) = true := by rw [kn, ← g2]; rfl
      repeat' first | intro h1 | refine sd (h := ok_shlE hs rfl rfl (by omega)) ?_ | refine st ?_ | refine stm ?_ | refine Ja ?_ | refine Jb ?_ | refine Jc ?_ | refine Jd ?_ | refine Je ?_ | refine Jf ?_ | refine Jg ?_ | refine Jh ?_ ?_ | refine Ji ?_ ?_ | refine Jj ?_ ?_ | refine run_nil ?_ | refine sd ?_ | refine sdl ?_ | refine sdm (n := 1) ?_ | refine sdm ?_ | refine sdb ?_ | refine Jk ?_ | refine Jl ?_ | refine Jm ?_ | refine Jn ?_ ?_ | refine Jo ?_ ?_ | refine Jp ?_ ?_ | refine rund_nil ?_ | refine Jz ?_ | refine Jw ?_ | refine Jx (id := 8) [0,1,3,7,3,19,3,115,255,511,1023] 11 ?_ | refine aw_block ?_ | refine Jq ?_ | refine Jr ?_ | refine Js ?_ | refine Jt ?_ | refine Ju ?_ ?_ | refine Jv ?_ ?_ | refine Jy ?_ | refine aw_exit ?_ | refine aw_ret ?_ | refine pp_ret ?_ | refine pp_normal ?_
      all_goals first | exact Exists.intro ⟨k + 1, _⟩ ⟨fitsD [0, 1], ⟨by dsimp only; omega, by dsimp only; rw [hn]; first | done | rfl | exact decide_eq_true hi | exact decide_eq_false hi⟩, by dsimp only; omega⟩ | (exfalso; omega)
  · obtain rfl : k = (d + 1).toNat := by omega
    rw [hk] at g2
    subst g2
    repeat' first | intro h1 | refine st ?_ | refine st_call (ac_inside _ _ _) ?_ | refine sd_call (ac_inside _ _ _) ?_ | refine stm ?_ | refine Ja ?_ | refine Jb ?_ | refine Jc ?_ | refine Jd ?_ | refine Je ?_ | refine Jf ?_ | refine Jg ?_ | refine Jh ?_ ?_ | refine Ji ?_ ?_ | refine Jj ?_ ?_ | refine run_nil ?_ | refine sd ?_ | refine sdl ?_ | refine sdm (n := 1) ?_ | refine sdm ?_ | refine sdb ?_ | refine Jk ?_ | refine Jl ?_ | refine Jm ?_ | refine Jn ?_ ?_ | refine Jo ?_ ?_ | refine Jp ?_ ?_ | refine rund_nil ?_ | refine Jz ?_ | refine Jw ?_ | refine Jx (id := 8) [0,1,3,7,3,19,3,115,255,511,1023] 11 ?_ | refine aw_block ?_ | refine Jq ?_ | refine Jr ?_ | refine Js ?_ | refine Jt ?_ | refine Ju ?_ ?_ | refine Jv ?_ ?_ | refine Jy ?_ | refine aw_exit ?_ | refine aw_ret ?_ | refine pp_ret ?_ | refine pp_normal ?_
    all_goals first | rfl | (exfalso; omega) | (exfalso; simp only [Bool.not_eq_true', Bool.not_eq_false', decide_eq_true_eq, decide_eq_false_iff_not, Bool.not_false, Bool.not_true] at *; omega)
end Go.Proofs.Ytekkdoaakilafaa
