/- What the functions of layer 47 compute, in plain Lean: parameters (l, d, e), a state (i, b, p, h). -/
import Derived.Test.YtcojimifplhodaaA
namespace Go.Proofs.Ytcojimifplhodaa

def gok (l d e : Int) : Bool := decide (2 ≤ l ∧ l ≤ 1024 ∧ 0 ≤ d ∧ d ≤ 8 ∧ 0 ≤ e ∧ e ≤ 16)
theorem gok_t {l d e : Int} (h : gok l d e = true) : 2 ≤ l ∧ l ≤ 1024 ∧ 0 ≤ d ∧ d ≤ 8 ∧ 0 ≤ e ∧ e ≤ 16 := by simpa [gok] using h
theorem gok_f {l d e : Int} (h : gok l d e = false) : ¬ (2 ≤ l ∧ l ≤ 1024 ∧ 0 ≤ d ∧ d ≤ 8 ∧ 0 ≤ e ∧ e ≤ 16) := by
  unfold gok at h; exact of_decide_eq_false h
def gE (l d e : Int) : Int := if gok l d e = true then 0 else 2
/-- One of the first k lengths is i. -/
def kn (i l : Int) : Nat → Bool
  | 0 => false
  | k + 1 => kn i l k || (i == l * 2 ^ k)
theorem kn_iff (i l : Int) : ∀ k, kn i l k = true ↔ ∃ j, j < k ∧ i = l * 2 ^ j
  | 0 => by simp [kn]
  | k + 1 => by
    simp only [kn, Bool.or_eq_true, kn_iff i l k, beq_iff_eq]
    constructor
    · rintro (⟨j, hj, e⟩ | e)
      · exact ⟨j, by omega, e⟩
      · exact ⟨k, by omega, e⟩
    · rintro ⟨j, hj, e⟩
      by_cases h : j = k
      · subst h; exact .inr e
      · exact .inl ⟨j, by omega, e⟩
theorem kn_bd {i l : Int} {k : Nat} (h : kn i l k = true) (hk : k ≤ 9) (h1 : 2 ≤ l) (h2 : l ≤ 1024) : l ≤ i ∧ i ≤ 262144 := by
  obtain ⟨j, hj, e⟩ := (kn_iff i l k).1 h
  have := lpow l j (by omega) h1 h2
  omega
structure Rm where
  i : Int
  b : Int
  p : Int
  h : Int
  deriving DecidableEq
def vok (l d : Int) (r : Rm) : Bool := kn r.i l (d + 1).toNat && decide (0 ≤ r.b ∧ r.b ≤ 1073741824 ∧ r.b + r.i / 2 ≤ r.p ∧ r.p < r.b + r.i ∧ 0 ≤ r.h ∧ r.h ≤ 1048576)
/-- The error of a state. -/
def vE (l d e : Int) (r : Rm) : Int := if gok l d e = true then (if vok l d r = true then 0 else 1) else 2
theorem vE_g {l d e : Int} {r : Rm} (h : gok l d e = false) : 2 = vE l d e r := by simp [vE, h]
theorem vE_k {l d e i b p h : Int} (hk : gok l d e = true) (h1 : kn i l (d + 1).toNat = false) : 1 = vE l d e ⟨i, b, p, h⟩ := by simp [vE, hk, vok, h1]
theorem vE_1 {l d e i b p h : Int} (hk : gok l d e = true) (h1 : ¬ (0 ≤ b ∧ b ≤ 1073741824 ∧ b + i / 2 ≤ p ∧ p < b + i ∧ 0 ≤ h ∧ h ≤ 1048576)) : 1 = vE l d e ⟨i, b, p, h⟩ := by
  simp only [vE, hk, vok, decide_eq_false h1]; simp
theorem vE_0 {l d e i b p h : Int} (hk : gok l d e = true) (h0 : kn i l (d + 1).toNat = true) (h1 : 0 ≤ b ∧ b ≤ 1073741824 ∧ b + i / 2 ≤ p ∧ p < b + i ∧ 0 ≤ h ∧ h ≤ 1048576) : 0 = vE l d e ⟨i, b, p, h⟩ := by
  simp only [vE, hk, vok, h0, decide_eq_true h1]; simp
/-- An interval of length n begins in slot s. -/
def bgn (n s x : Int) : Rm := ⟨n, s, s + n / 2 + x % (n - n / 2), 0⟩
def zR : Rm := ⟨0, 0, 0, 0⟩
def stE (l d e s : Int) : Int := if gok l d e = true then (if 0 ≤ s ∧ s ≤ 1073741824 then 0 else 2) else 2
def stR (l d e s x : Int) : Rm := if stE l d e s = 0 then bgn l s x else zR
/-- The error of a state and a slot. -/
def cE (l d e : Int) (r : Rm) (s : Int) : Int := if vE l d e r = 0 then (if 0 ≤ s ∧ s ≤ 1073741824 then (if s < r.b then 5 else 0) else 2) else vE l d e r
def quiet (e : Int) (r : Rm) : Bool := e == 0 || decide (r.h < e)
def top (l d : Int) : Int := l * 2 ^ d.toNat
def nxt (l d : Int) (r : Rm) (s x : Int) : Rm := if r.b + r.i ≤ s then bgn (if top l d < 2 * r.i then top l d else 2 * r.i) s x else r
def spR (l d e : Int) (r : Rm) (s x : Int) : Rm := if cE l d e r s = 0 then nxt l d r s x else zR
def spB (l d e : Int) (r : Rm) (s x : Int) : Bool := if cE l d e r s = 0 then (s == (nxt l d r s x).p && quiet e (nxt l d r s x)) else false
def hr (l : Int) (r : Rm) (q : Bool) (s x : Int) : Rm := if q = true then ⟨r.i, r.b, r.p, if 1048576 < r.h + 1 then 1048576 else r.h + 1⟩ else if l < r.i then bgn l s x else r
def hrR (l d e : Int) (r : Rm) (q : Bool) (s x : Int) : Rm := if cE l d e r s = 0 then hr l r q s x else zR
end Go.Proofs.Ytcojimifplhodaa
