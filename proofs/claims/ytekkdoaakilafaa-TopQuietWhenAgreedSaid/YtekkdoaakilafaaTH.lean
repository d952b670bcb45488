/- TopQuietWhenAgreed: plain. Gossip: Due. TopQuietWhenAgreed: a point more. -/
import Derived.Test.YtekkdoaakilafaaGF
import Derived.Test.YtekkdoaakilafaaVM
import Derived.Test.YtekkdoaakilafaaVL
import Derived.Test.YtekkdoaakilafaaTW
import Derived.Test.YtekkdoaakilafaaR2
import Derived.Test.YtekkdoaakilafaaVH
set_option linter.unusedVariables false
set_option linter.unusedSimpArgs false
namespace Go.Proofs.Ytekkdoaakilafaa
open Go Av
set_option maxRecDepth 20000
/-- How many of the first n numbers have a property. -/
def cN (f : Nat → Bool) : Nat → Nat
  | 0 => 0
  | n + 1 => cN f n + if f n = true then 1 else 0
theorem cN_le (f) : ∀ n, cN f n ≤ n
  | 0 => Nat.le_refl _
  | n + 1 => by
    have := cN_le f n
    rw [cN]
    split <;> omega
theorem cN_congr {f g : Nat → Bool} : ∀ n, (∀ j, j < n → f j = g j) → cN f n = cN g n
  | 0, _ => rfl
  | n + 1, h => by rw [cN, cN, cN_congr n fun j hj => h j (by omega), h n (by omega)]
theorem cN_one {f g : Nat → Bool} {i : Nat} (h0 : f i = false) (h1 : g i = true) : ∀ n, i < n → (∀ j, j < n → j ≠ i → f j = g j) → cN g n = cN f n + 1
  | 0, hi, _ => by omega
  | n + 1, hi, h => by
    rw [cN, cN]
    by_cases hn : i = n
    · subst hn
      rw [cN_congr i fun j hj => h j (by omega) (by omega), h0, h1]
      rfl
    · rw [cN_one h0 h1 n (by omega) fun j hj hji => h j (by omega) hji, h n (by omega) (by omega)]
      omega
theorem cN_all {f : Nat → Bool} : ∀ n, (∀ j, j < n → f j = true) → cN f n = n
  | 0, _ => rfl
  | n + 1, h => by rw [cN, cN_all n fun j hj => h j (by omega), h n (by omega)]; rfl
theorem cN_no {f : Nat → Bool} : ∀ n, (∀ j, j < n → f j = false) → cN f n = 0
  | 0, _ => rfl
  | n + 1, h => by rw [cN, cN_no n fun j hj => h j (by omega), h n (by omega)]; rfl
/-- Node j with the point p has had its turn, when slot s is at node i. -/
def dn (s i j : Nat) (p : Int) : Bool := decide (p < s ∨ (p = s ∧ j < i))
def qA (Q : List (Int × Int)) (s i n : Nat) : Nat := cN (fun j => dn s i j (Q.getD j (0, 0)).1) n
structure PInv (e l : Int) (n s i : Nat) (made : Int) (Q : List (Int × Int)) : Prop where
  len : Q.length = n
  m0 : 0 ≤ made
  rng : ∀ (j : Nat) (q : Int × Int), Q[j]? = some q → l / 2 ≤ q.1 ∧ q.1 < l ∧ 0 ≤ q.2 ∧ q.2 ≤ made
  dst : ∀ (j k : Nat) (q r : Int × Int), Q[j]? = some q → Q[k]? = some r → q.1 = r.1 → j = k
  hrd : ∀ (j : Nat) (q : Int × Int), Q[j]? = some q → dn s i j q.1 = false → q.2 = made
  cnt : made = if e = 0 then (qA Q s i n : Int) else min e (qA Q s i n)
theorem getD_at {Q : List (Int × Int)} {j : Nat} (h : j < Q.length) : ∃ q, Q[j]? = some q ∧ Q.getD j (0, 0) = q :=
  ⟨Q[j], List.getElem?_eq_getElem h, by rw [List.getD_eq_getElem?_getD, List.getElem?_eq_getElem h]; rfl⟩
theorem PInv.le {e l : Int} {n s i : Nat} {made : Int} {Q : List (Int × Int)} (h : PInv e l n s i made Q) : made ≤ n := by
  have := cN_le (fun j => dn s i j (Q.getD j (0, 0)).1) n
  have hc := h.cnt
  unfold qA at hc
  split at hc <;> omega
theorem dn_nextG {s i j : Nat} {p : Int} (h : j ≠ i ∨ p ≠ s) : dn s (i + 1) j p = dn s i j p := by
  unfold dn
  apply decide_eq_decide.2
  omega
theorem PInv.pass {e l : Int} {n s i : Nat} {made : Int} {Q : List (Int × Int)} (h : PInv e l n s i made Q) {q : Int × Int} (hq : Q[i]? = some q) (hp : q.1 ≠ s) : PInv e l n s (i + 1) made Q := by
  have hd : ∀ (j : Nat) (q' : Int × Int), Q[j]? = some q' → dn s (i + 1) j q'.1 = dn s i j q'.1 := fun j q' hj => dn_nextG (by
    by_cases hji : j = i
    · subst hji
      rw [hq] at hj
      cases hj
      exact .inr hp
    · exact .inl hji)
  have hA : qA Q s (i + 1) n = qA Q s i n := cN_congr n fun j hj => by
    obtain ⟨q', h1, h2⟩ := getD_at (Q := Q) (j := j) (by rw [h.len]; exact hj)
    rw [h2]
    exact hd j q' h1
  exact ⟨h.len, h.m0, h.rng, h.dst, fun j q' hj hn => h.hrd j q' hj (by rw [← hd j q' hj]; exact hn), by rw [hA]; exact h.cnt⟩
theorem PInv.grow {e l : Int} {n s i : Nat} {made : Int} {Q : List (Int × Int)} (h : PInv e l n s i made Q) {q : Int × Int} (hq : Q[i]? = some q) (hp : q.1 = s) : qA Q s (i + 1) n = qA Q s i n + 1 ∧ q.2 = made := by
  have hi : i < n := by rw [← h.len]; exact (List.getElem?_eq_some_iff.1 hq).1
  obtain ⟨q', h1, h2⟩ := getD_at (Q := Q) (j := i) (by rw [h.len]; exact hi)
  rw [hq] at h1
  cases h1
  have hf : dn s i i q.1 = false := decide_eq_false (by omega)
  refine ⟨cN_one (i := i) (by rw [h2]; exact hf) (by rw [h2]; exact decide_eq_true (by omega)) n hi fun j hj hji => (dn_nextG (.inl hji)).symm, h.hrd i q hq hf⟩
theorem PInv.hush {e l : Int} {n s i : Nat} {made : Int} {Q : List (Int × Int)} (h : PInv e l n s i made Q) {q : Int × Int} (hq : Q[i]? = some q) (hp : q.1 = s) (he : e ≠ 0) (hm : e ≤ q.2) : PInv e l n s (i + 1) made Q := by
  obtain ⟨hA, hh⟩ := h.grow hq hp
  refine ⟨h.len, h.m0, h.rng, h.dst, fun j q' hj hn => ?_, ?_⟩
  · by_cases hji : j = i
    · subst hji
      rw [hq] at hj
      cases hj
      exact hh
    · exact h.hrd j q' hj (by rw [← dn_nextG (.inl hji)]; exact hn)
  · have hc := h.cnt
    rw [if_neg he] at hc
    rw [hA, if_neg he]
    omega
/-- Behind node i's announcement, heard by the first k nodes. -/
def Hrd (Q0 : List (Int × Int)) (i k : Nat) (Q : List (Int × Int)) : Prop := Q.length = Q0.length ∧ ∀ (j : Nat) (q : Int × Int), Q0[j]? = some q → Q[j]? = some (if j < k ∧ j ≠ i then (q.1, q.2 + 1) else q)
theorem Hrd.init (Q0 : List (Int × Int)) (i : Nat) : Hrd Q0 i 0 Q0 := ⟨rfl, fun j q h => by rw [if_neg (by omega)]; exact h⟩
theorem Hrd.at {Q0 : List (Int × Int)} {i k : Nat} {Q : List (Int × Int)} (h : Hrd Q0 i k Q) {q : Int × Int} (hq : Q0[k]? = some q) : Q[k]? = some q := by
  rw [h.2 k q hq, if_neg (by omega)]
theorem Hrd.skip {Q0 : List (Int × Int)} {i : Nat} {Q : List (Int × Int)} (h : Hrd Q0 i i Q) : Hrd Q0 i (i + 1) Q := ⟨h.1, fun j q hj => by
  rw [h.2 j q hj]
  congr 1
  by_cases hji : j = i
  · rw [if_neg (by omega), if_neg (by omega)]
  · by_cases hlt : j < i
    · rw [if_pos ⟨hlt, hji⟩, if_pos ⟨by omega, hji⟩]
    · rw [if_neg (by omega), if_neg (by omega)]⟩
theorem Hrd.set {Q0 : List (Int × Int)} {i k : Nat} {Q : List (Int × Int)} (h : Hrd Q0 i k Q) (hk : k ≠ i) {q : Int × Int} (hq : Q0[k]? = some q) : Hrd Q0 i (k + 1) (Q.set k (q.1, q.2 + 1)) := by
  refine ⟨by rw [List.length_set]; exact h.1, fun j q' hj => ?_⟩
  by_cases hjk : k = j
  · subst hjk
    rw [hq] at hj
    cases hj
    rw [List.getElem?_set_self (by rw [h.1]; exact (List.getElem?_eq_some_iff.1 hq).1), if_pos ⟨by omega, hk⟩]
  · rw [List.getElem?_set_ne hjk, h.2 j q' hj]
    congr 1
    by_cases hlt : j < k ∧ j ≠ i
    · rw [if_pos hlt, if_pos ⟨by omega, hlt.2⟩]
    · rw [if_neg hlt, if_neg (by omega)]
theorem Hrd.back {Q0 : List (Int × Int)} {i k : Nat} {Q : List (Int × Int)} (h : Hrd Q0 i k Q) {j : Nat} {r : Int × Int} (hr : Q[j]? = some r) : ∃ q, Q0[j]? = some q ∧ r = if j < k ∧ j ≠ i then (q.1, q.2 + 1) else q := by
  have hj : j < Q0.length := by rw [← h.1]; exact (List.getElem?_eq_some_iff.1 hr).1
  refine ⟨Q0[j], List.getElem?_eq_getElem hj, ?_⟩
  have := h.2 j _ (List.getElem?_eq_getElem hj)
  rw [hr] at this
  exact Option.some.inj this
theorem PInv.speak {e l : Int} {n s i : Nat} {made : Int} {Q Q' : List (Int × Int)} (h : PInv e l n s i made Q) {q : Int × Int} (hq : Q[i]? = some q) (hp : q.1 = s) (he : e = 0 ∨ q.2 < e) (hH : Hrd Q i n Q') : PInv e l n s (i + 1) (made + 1) Q' := by
  obtain ⟨hA, hh⟩ := h.grow hq hp
  have hfst : ∀ (j : Nat) (r : Int × Int), Q'[j]? = some r → ∃ q', Q[j]? = some q' ∧ r.1 = q'.1 ∧ r.2 = if j = i then q'.2 else q'.2 + 1 := fun j r hr => by
    obtain ⟨q', h1, h2⟩ := hH.back hr
    have hj : j < n := by rw [← h.len]; exact (List.getElem?_eq_some_iff.1 h1).1
    refine ⟨q', h1, ?_⟩
    by_cases hji : j = i
    · rw [if_neg (by omega)] at h2
      rw [h2, if_pos hji]
      exact ⟨rfl, rfl⟩
    · rw [if_pos ⟨hj, hji⟩] at h2
      rw [h2, if_neg hji]
      exact ⟨rfl, rfl⟩
  have hA' : qA Q' s (i + 1) n = qA Q s i n + 1 := by
    rw [← hA]
    refine cN_congr n fun j hj => ?_
    obtain ⟨r, h1, h2⟩ := getD_at (Q := Q') (j := j) (by rw [hH.1, h.len]; exact hj)
    obtain ⟨q', g1, g2⟩ := getD_at (Q := Q) (j := j) (by rw [h.len]; exact hj)
    obtain ⟨q'', k1, k2, _⟩ := hfst j r h1
    rw [g1] at k1
    cases k1
    show dn s (i + 1) j _ = dn s (i + 1) j _
    rw [h2, g2, k2]
  refine ⟨by rw [hH.1, h.len], by have := h.m0; omega, fun j r hr => ?_, fun j k r r' hr hr' heq => ?_, fun j r hr hn => ?_, ?_⟩
  · obtain ⟨q', g1, g2, g3⟩ := hfst j r hr
    have := h.rng j q' g1
    split at g3 <;> omega
  · obtain ⟨q', g1, g2, g3⟩ := hfst j r hr
    obtain ⟨q'', k1, k2, k3⟩ := hfst k r' hr'
    exact h.dst j k q' q'' g1 k1 (by rw [← g2, ← k2, heq])
  · obtain ⟨q', g1, g2, g3⟩ := hfst j r hr
    by_cases hji : j = i
    · exfalso
      subst hji
      rw [hq] at g1
      cases g1
      rw [g2] at hn
      exact absurd (decide_eq_true (p := q.1 < s ∨ (q.1 = s ∧ j < j + 1)) (by omega)) (by rw [show decide (q.1 < s ∨ (q.1 = s ∧ j < j + 1)) = false from hn]; simp)
    · rw [if_neg hji] at g3
      rw [g2, dn_nextG (.inl hji)] at hn
      rw [g3, h.hrd j q' g1 hn]
  · have hc := h.cnt
    rw [hA']
    rcases he with he | he
    · rw [if_pos he] at hc ⊢
      omega
    · by_cases he0 : e = 0
      · rw [if_pos he0] at hc ⊢
        omega
      · rw [if_neg he0] at hc ⊢
        omega
theorem PInv.slot {e l : Int} {n s : Nat} {made : Int} {Q : List (Int × Int)} (h : PInv e l n s n made Q) : PInv e l n (s + 1) 0 made Q := by
  have hd : ∀ (j : Nat) (q' : Int × Int), Q[j]? = some q' → dn (s + 1) 0 j q'.1 = dn s n j q'.1 := fun j q' hj => by
    have hjn : j < n := by rw [← h.len]; exact (List.getElem?_eq_some_iff.1 hj).1
    unfold dn
    apply decide_eq_decide.2
    omega
  have hA : qA Q (s + 1) 0 n = qA Q s n n := cN_congr n fun j hj => by
    obtain ⟨q', h1, h2⟩ := getD_at (Q := Q) (j := j) (by rw [h.len]; exact hj)
    rw [h2]
    exact hd j q' h1
  exact ⟨h.len, h.m0, h.rng, h.dst, fun j q' hj hn => h.hrd j q' hj (by rw [← hd j q' hj]; exact hn), by rw [hA]; exact h.cnt⟩
theorem PInv.fin {e l : Int} {n s : Nat} {made : Int} {Q : List (Int × Int)} (h : PInv e l n s 0 made Q) (hs : l ≤ s) : made = if e = 0 then (n : Int) else min e n := by
  have hA : qA Q s 0 n = n := cN_all n fun j hj => by
    obtain ⟨q', h1, h2⟩ := getD_at (Q := Q) (j := j) (by rw [h.len]; exact hj)
    rw [h2]
    have := h.rng j q' h1
    exact decide_eq_true (.inl (by omega))
  rw [← hA]
  have hc := h.cnt
  rw [hA] at hc ⊢
  exact hc
theorem PInv.zero {e l : Int} {n : Nat} {Q : List (Int × Int)} (hl : Q.length = n) (h2 : 2 ≤ l) (he : 0 ≤ e) (hr : ∀ (j : Nat) (q : Int × Int), Q[j]? = some q → l / 2 ≤ q.1 ∧ q.1 < l ∧ q.2 = 0) (hd : ∀ (j k : Nat) (q r : Int × Int), Q[j]? = some q → Q[k]? = some r → q.1 = r.1 → j = k) : PInv e l n 0 0 0 Q := by
  have hA : qA Q 0 0 n = 0 := cN_no n fun j hj => by
    obtain ⟨q', h1, h2⟩ := getD_at (Q := Q) (j := j) (by rw [hl]; exact hj)
    rw [h2]
    have := hr j q' h1
    exact decide_eq_false (by omega)
  refine ⟨hl, Int.le_refl _, fun j q hj => ?_, hd, fun j q hj _ => (hr j q hj).2.2, ?_⟩
  · have := hr j q hj
    omega
  · rw [hA]
    split <;> omega

def rmF (l : Int) (p : Int × Int) : List Value := [.int .i64 l, .int .i64 0, .int .i64 p.1, .int .i64 p.2]
instance (l : Int) : RenF (rmF l) := ⟨fun _ _ => rfl⟩
theorem rmF_len {l : Int} (L : List (Int × Int)) : (L.flatMap (rmF l)).length = L.length * 4 := by
  induction L with
  | nil => rfl
  | cons p L ih => rw [List.flatMap_cons, List.length_append, ih, List.length_cons, show (rmF l p).length = 4 from rfl]; omega
theorem rmF_snoc {l : Int} {L : List (Int × Int)} {c : Int × Int} : L.flatMap (rmF l) ++ rmF l c = (L ++ [c]).flatMap (rmF l) := by
  rw [List.flatMap_append]
  simp
theorem take_full2 {α : Type} {l : List α} {k : Nat} (h : l.length ≤ k) : (l.drop 0).take k = l := by rw [List.drop_zero, List.take_of_length_le h]
/-- The points that are used, as a map's cells. -/
def mpF (p : Int × Int) : List Value := [.int .i64 p.1, .bool true]
instance : RenF mpF := ⟨fun _ _ => rfl⟩
theorem mpF_snoc {L : List (Int × Int)} {p : Int} : L.flatMap mpF ++ [.int .i64 p, .bool true] = (L ++ [(p, 0)]).flatMap mpF := by
  rw [List.flatMap_append]
  rfl
theorem mp_no {p : Int} : ∀ {Q : List (Int × Int)}, (∀ q ∈ Q, q.1 ≠ p) → noKey .i64 p (Q.flatMap mpF) = true
  | [], _ => rfl
  | q :: Q, h => by
    have ih := mp_no (p := p) (Q := Q) fun r hr => h r (List.mem_cons_of_mem _ hr)
    show (decide (IntKind.i64 = .i64) && !decide (q.1 = p) && noKey .i64 p (Q.flatMap mpF)) = true
    rw [ih, decide_eq_false (h q List.mem_cons_self)]
    rfl
theorem mp_at {p : Int} : ∀ {Q : List (Int × Int)}, (∃ q ∈ Q, q.1 = p) → atKey? .i64 p (Q.flatMap mpF) = some (.bool true)
  | [], h => by obtain ⟨q, h, _⟩ := h; cases h
  | q :: Q, h => by
    show cond (decide (IntKind.i64 = .i64)) (cond (decide (q.1 = p)) (some (Value.bool true)) (atKey? .i64 p (Q.flatMap mpF))) none = _
    by_cases hq : q.1 = p
    · rw [decide_eq_true hq]; rfl
    · rw [decide_eq_false hq]
      obtain ⟨r, hr, h2⟩ := h
      rcases List.mem_cons.1 hr with rfl | hr
      · exact absurd h2 hq
      · exact mp_at ⟨r, hr, h2⟩
structure Init (l : Int) (Q : List (Int × Int)) : Prop where
  rng : ∀ (j : Nat) (q : Int × Int), Q[j]? = some q → l / 2 ≤ q.1 ∧ q.1 < l ∧ q.2 = 0
  dst : ∀ (j k : Nat) (q r : Int × Int), Q[j]? = some q → Q[k]? = some r → q.1 = r.1 → j = k
theorem Init.nil (l : Int) : Init l [] := ⟨fun j q h => by simp at h, fun j k q r h => by simp at h⟩
theorem Init.snoc {l p : Int} {Q : List (Int × Int)} (h : Init l Q) (hp : l / 2 ≤ p ∧ p < l) (hn : ∀ q ∈ Q, q.1 ≠ p) : Init l (Q ++ [(p, 0)]) := by
  have hne : ∀ (j : Nat) (q : Int × Int), Q[j]? = some q → q.1 ≠ p := fun j q hj => hn q (List.mem_of_getElem? hj)
  have key : ∀ (j : Nat) (q : Int × Int), (Q ++ [(p, 0)])[j]? = some q → Q[j]? = some q ∨ (j = Q.length ∧ q = (p, 0)) := fun j q hj => by
    rcases Nat.lt_or_ge j Q.length with h | h
    · rw [List.getElem?_append_left h] at hj; exact .inl hj
    · rw [List.getElem?_append_right h] at hj
      have hlt : j - Q.length < 1 := (List.getElem?_eq_some_iff.1 hj).1
      have : j - Q.length = 0 := by omega
      rw [this] at hj
      exact .inr ⟨by omega, (Option.some.inj hj).symm⟩
  refine ⟨fun j q hj => ?_, fun j k q r hj hk e => ?_⟩
  · rcases key j q hj with h1 | ⟨_, rfl⟩
    · exact h.rng j q h1
    · exact ⟨hp.1, hp.2, rfl⟩
  · rcases key j q hj with h1 | ⟨h1, rfl⟩
    · rcases key k r hk with h2 | ⟨h2, rfl⟩
      · exact h.dst j k q r h1 h2 e
      · exact absurd e (hne j q h1)
    · rcases key k r hk with h2 | ⟨h2, rfl⟩
      · exact absurd e.symm (hne k r h2)
      · omega
theorem topT_bd {l d e : Int} (hg : gok l d e = true) : l ≤ top l d ∧ top l d ≤ 262144 ∧ kn (top l d) l (d + 1).toNat = true := by
  obtain ⟨l1, l2, d1, d2, e1, e2⟩ := gok_t hg
  have := lpow l d.toNat (by omega) l1 l2
  exact ⟨this.1, this.2, (kn_iff _ _ _).2 ⟨d.toNat, by omega, rfl⟩⟩
theorem vE_T {l d e p h : Int} (hg : gok l d e = true) (hp : top l d / 2 ≤ p ∧ p < top l d) (hh : 0 ≤ h ∧ h ≤ 1048576) : vE l d e ⟨top l d, 0, p, h⟩ = 0 := by
  obtain ⟨t1, t2, t3⟩ := topT_bd hg
  exact vE_k0 hg t3 (by dsimp only; omega)
theorem cE_T {l d e p h s : Int} (hg : gok l d e = true) (hp : top l d / 2 ≤ p ∧ p < top l d) (hh : 0 ≤ h ∧ h ≤ 1048576) (hs : 0 ≤ s ∧ s ≤ 1073741824) : cE l d e ⟨top l d, 0, p, h⟩ s = 0 := cE_ok (vE_T hg hp hh) hs.1 hs.2 hs.1
structure Pg1 where
  i : Nat
  Q : List (Int × Int)
structure Pg2 where
  i : Nat
  made : Int
  Q : List (Int × Int)
theorem flat_u32 (l : List Int) : (l.flatMap fun n => [Value.int .u32 n]) = List.map (Value.int .u32) l := by
  induction l with
  | nil => rfl
  | cons a l ih => rw [List.flatMap_cons, ih]; rfl
end Go.Proofs.Ytekkdoaakilafaa
namespace Go.Proofs.Ytekkdoaakilafaa
open Go Av
set_option maxRecDepth 20000
set_option maxHeartbeats 2000000 in
theorem ac_due_in (l d e i b p h fr to : Int) (hv : vE l d e ⟨i, b, p, h⟩ = 0) (h1 : 0 ≤ fr ∧ fr ≤ p ∧ p ≤ to) (hq : e = 0 ∨ h < e) : ACalls Try.prog 37 [.agg #[.int .i64 l, .int .i64 d, .int .i64 e], .agg #[.int .i64 i, .int .i64 b, .int .i64 p, .int .i64 h], .int .i64 fr, .int .i64 to] [] (.tuple #[.int .i64 p, .bool true, .int .i64 0]) [] := by
  have HV := ac_valid0 l d e i b p h hv
  have HQ := ac_quiet l d e i b p h
  rw [decide_eq_true hq] at HQ
  clear hv hq
  refine acalls_pure Try.func37 rfl rfl rfl ?_
  repeat' first | intro h1 | intro h1 | refine st (h := ok_not_dec2 rfl) ?_ | refine st ?_ | refine st_call (HV) ?_ | refine st_call (HQ) ?_ | refine sd_call (HV) ?_ | refine sd_call (HQ) ?_ | refine stm ?_ | refine Ja ?_ | refine Jb ?_ | refine Jc ?_ | refine Jd ?_ | refine Je ?_ | refine Jf ?_ | refine Jg ?_ | refine Jh ?_ ?_ | refine Ji ?_ ?_ | refine Jj ?_ ?_ | refine run_nil ?_ | refine Jz ?_ | refine Jw ?_ | refine aw_block ?_ | refine Jq ?_ | refine Jr ?_ | refine Js ?_ | refine Jt ?_ | refine Ju ?_ ?_ | refine Jv ?_ ?_ | refine Jy ?_ | refine aw_exit ?_ | refine aw_ret ?_ | refine pp_ret ?_ | refine pp_normal ?_
  all_goals first | rfl | (exfalso; omega) | (simp [retOf]; done) | (exfalso; simp_all; done)
end Go.Proofs.Ytekkdoaakilafaa
namespace Go.Proofs.Ytekkdoaakilafaa
open Go Av
set_option maxRecDepth 20000
set_option maxHeartbeats 16000000 in
theorem tq_r1 {Q : Exit → Slots → Mem → Prop} (l d e T : Int) (X : List Int) (who : Int) (t1 : l ≤ T) (t2 : T ≤ 262144) (h300 : ¬ 300 < T) (l1 : 2 ≤ l) (he0 : ¬ e = 0) (hvT : ∀ p h : Int, T / 2 ≤ p ∧ p < T → 0 ≤ h ∧ h ≤ 1048576 → vE l d e ⟨T, 0, p, h⟩ = 0) (hcT : ∀ p h s : Int, T / 2 ≤ p ∧ p < T → 0 ≤ h ∧ h ≤ 1048576 → 0 ≤ s ∧ s ≤ 1073741824 → cE l d e ⟨T, 0, p, h⟩ s = 0) (n i : Nat) (n6 : ¬ 6 < n) (hn : X.length = n) (Q0 : List (Int × Int)) (g2 : Q0.length = i) (g3 : Init T Q0) (hi : i < n) (x : Int) (hx : X[i]? = some x) (hxr : 0 ≤ x ∧ x ≤ 4294967295) (r p : Int) (hr : x % (T - T / 2) = r) (hp : T / 2 + r = p) (hpb : T / 2 ≤ p ∧ p < T) (hno : ∀ q ∈ Q0, q.1 ≠ p) : AW Try.prog Try.f9.ntmps 1 (loopAt Try.f9 0) (ThenA (fun σ1 m1 => ∃ y : Pg1, Fits 1 ([(1, .slice (some ⟨0, 0, none⟩) n n), (2, .int .u8 who), (3, .pointer (some ⟨2, 0, none⟩)), (7, .int .i64 T), (8, .slice (some ⟨1, 0, none⟩) y.i y.i), (9, .map (some 3)), (56, .slice (some ⟨0, 0, none⟩) n n), (57, .int .i64 n), (58, .int .i64 y.i)]) ([some ⟨List.map (Value.int .u32) X, false, 1⟩, some ⟨y.Q.flatMap (rmF T), true, 4⟩, some ⟨[.int .i64 l, .int .i64 d, .int .i64 e], true, 1⟩, some ⟨y.Q.flatMap mpF, true, mapZ⟩]) σ1 m1 ∧ (y.i ≤ n ∧ y.Q.length = y.i ∧ Init T y.Q) ∧ n - y.i < n - i) Q) ([(1, .slice (some ⟨0, 0, none⟩) n n), (2, .int .u8 who), (3, .pointer (some ⟨2, 0, none⟩)), (7, .int .i64 T), (8, .slice (some ⟨1, 0, none⟩) i i), (9, .map (some 3)), (56, .slice (some ⟨0, 0, none⟩) n n), (57, .int .i64 n), (58, .int .i64 i)]) ([some ⟨List.map (Value.int .u32) X, false, 1⟩, some ⟨Q0.flatMap (rmF T), true, 4⟩, some ⟨[.int .i64 l, .int .i64 d, .int .i64 e], true, 1⟩, some ⟨Q0.flatMap mpF, true, mapZ⟩]) := by
  have HV := ac_valid0 l d e T 0 p 0 (hvT p 0 hpb (by decide))
  have hnk := mp_no hno
  have hI := g3.snoc hpb hno
  have hmf := mpF_snoc (L := Q0) (p := p)
  clear hcT hvT hno g3
  repeat' first | intro h1 | intro h1 | refine st (h := ok_not_dec2 rfl) ?_ | refine sd (h := ok_not_dec2 rfl) ?_ | refine st (h := ok_load_mapE (f := Value.int .u32) i hx rfl rfl rfl (by omega)) ?_ | refine sdl (h := ok_load_mapE (f := Value.int .u32) i hx rfl rfl rfl (by omega)) ?_ | refine sd (h := ok_load_mapE (f := Value.int .u32) i hx rfl rfl rfl (by omega)) ?_ | refine st (v := .int .i64 r) (h := by (rw [← hr]; exact ok_rem_pos rfl rfl (by omega))) ?_ | refine st (v := .int .i64 p) (h := by (rw [← hp]; apply ok_add64; rfl; rfl; omega)) ?_ | refine st (v := .bool false) (h := ok_lookup_no (by kernel_rfl) rfl rfl rfl hnk) ?_ | refine stm (h := ok_mapUpd rfl rfl rfl rfl hnk (by (repeat constructor))) ?_ | refine stm (h := by (apply ok_append (cs := (Q0 ++ [(p, 0)]).flatMap (rmF T)) (olds := Q0.flatMap (rmF T)); rfl; rfl; rfl; rfl; rfl; rfl; (focus (apply Src.slc; rfl; exact Ty.eq; rfl; exact Nat.le_of_ble_eq_true rfl; exact TakeR.eq (by ((repeat constructor); first | done | fail)); rfl; rfl)); (focus (rw [rmF_len, g2]; omega)); (focus (apply take_full; rw [rmF_len, g2])); (focus exact rmF_snoc (l := T) (L := Q0) (c := (p, 0))); omega; (focus ((repeat constructor); first | done | fail)))) ?_ | refine st ?_ | refine st_call (HV) ?_ | refine sd_call (HV) ?_ | refine stm ?_ | refine Ja ?_ | refine Jb ?_ | refine Jc ?_ | refine Jd ?_ | refine Je ?_ | refine Jf ?_ | refine Jg ?_ | refine Jh ?_ ?_ | refine Ji ?_ ?_ | refine Jj ?_ ?_ | refine run_nil ?_ | refine sd ?_ | refine sdl ?_ | refine sdm (n := 1) ?_ | refine sdm ?_ | refine sdb ?_ | refine Jk ?_ | refine Jl ?_ | refine Jm ?_ | refine Jn ?_ ?_ | refine Jo ?_ ?_ | refine Jp ?_ ?_ | refine rund_nil ?_ | refine Jz ?_ | refine Jw ?_ | refine Jx (id := 22) [0,0,0,6,14,0,63,127,255,255,255,0,2559,7167,16383] 12 ?_ | refine Jx (id := 30) [0,0,0,0,0,24,56,0,252,508,1020,1020,2047,6143,16383] 13 ?_ | refine Jx (id := 41) [0,0,0,6,14,0,32,0,128,384,1023,2047,4095,4095,0,24575,65535] 15 ?_ | refine Jx (id := 44) [0,0,3,7,15,0,32,127] 8 ?_ | refine Jx (id := 45) [0,0,0,6,14,31,63] 7 ?_ | refine aw_block ?_ | refine Jq ?_ | refine Jr ?_ | refine Js ?_ | refine Jt ?_ | refine Ju ?_ ?_ | refine Jv ?_ ?_ | refine Jy ?_ | refine aw_exit ?_ | refine aw_ret ?_ | refine pp_ret ?_ | refine pp_normal ?_
  all_goals first | (rw [hmf]; exact Exists.intro ⟨i + 1, Q0 ++ [(p, 0)]⟩ ⟨fitsD [0, 6, 2, 3], ⟨hi, by dsimp only; rw [List.length_append, g2]; rfl, hI⟩, by dsimp only; omega⟩) | (exfalso; omega)
end Go.Proofs.Ytekkdoaakilafaa
