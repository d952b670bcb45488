/- Messages: Decode, plain. -/
import Derived.Test.YtjamfmnlhiolkaaG1
set_option linter.unusedVariables false
set_option linter.unusedSimpArgs false
namespace Go.Proofs.Ytjamfmnlhiolkaa
open Go Av
set_option maxRecDepth 20000
abbrev MsgT := Int × Bool × Int × Int × Int × List Sp × List Sp
def msg0 : MsgT := (0, false, 0, 0, 0, [], [])
def chkM (m : MsgT) : Int := chk m.1 m.2.2.1 m.2.2.2.1 m.2.2.2.2.1 m.2.1 m.2.2.2.2.2.1 m.2.2.2.2.2.2
def encM (m : MsgT) : ByteArray := pkB (msgB m.1 m.2.2.1 m.2.2.2.1 m.2.2.2.2.1 m.2.1 m.2.2.2.2.2.1 m.2.2.2.2.2.2)
/-- A list of places, read: at most so many. -/
def lsR (cap : Int → Int) (d : ByteArray) (p : Nat × Int) : List Sp × Nat × Int := plR d (unsR d p.1 p.2 4).2.1 (unsR d p.1 p.2 4).2.2 (cap (unsR d p.1 p.2 4).1).toNat
def u_ (d : ByteArray) (w : Int) (p : Nat × Int) : Int × Nat × Int := unsR d p.1 p.2 w
def f_ (d : ByteArray) (p : Nat × Int) : Bool × Nat × Int := flgR d p.1 p.2
/-- A message, read: at most so many places. -/
def rdM (cap : Int → Int) (d : ByteArray) : MsgT × Nat × Int :=
  let x1 := u_ d 3 (0, 0)
  let x2 := f_ d x1.2
  let x3 := u_ d 8 x2.2
  let x4 := u_ d 2 x3.2
  let x5 := u_ d 10 x4.2
  let x6 := lsR cap d x5.2
  let x7 := lsR cap d x6.2
  ((x1.1, x2.1, x3.1, x4.1, x5.1, x6.1, x7.1), x7.2)
/-- What Decode returns. -/
def decP (d : ByteArray) : MsgT × Int :=
  if closeR d (rdM (min · 8) d).2.1 (rdM (min · 8) d).2.2 ≠ 0 then (msg0, 10) else if chkM (rdM (min · 8) d).1 ≠ 0 then (msg0, 10) else if encM (rdM (min · 8) d).1 ≠ d then (msg0, 10) else ((rdM (min · 8) d).1, 0)
/-- What the reference's Decode returns. -/
def decR (d : ByteArray) : MsgT × Int :=
  if closeR d (rdM id d).2.1 (rdM id d).2.2 ≠ 0 then (msg0, 10) else if chkM (rdM id d).1 ≠ 0 then (msg0, 10) else ((rdM id d).1, 0)
theorem plR_le {d : ByteArray} {a a' : Nat} {e e' : Int} {k : Nat} {L : List Sp} (h : plR d a e k = (L, a', e')) (ha : a ≤ 8 * d.size) : a' ≤ 8 * d.size := by
  induction k generalizing L a' e' with
  | zero => simp only [plR, Prod.mk.injEq] at h; omega
  | succ k ih =>
    obtain ⟨L0, a0, e0, h0⟩ : ∃ x y z, plR d a e k = (x, y, z) := ⟨_, _, _, rfl⟩
    obtain ⟨v1, a1, e1, h1⟩ : ∃ x y z, unsR d a0 e0 9 = (x, y, z) := ⟨_, _, _, rfl⟩
    obtain ⟨v2, a2, e2, h2⟩ : ∃ x y z, unsR d a1 e1 4 = (x, y, z) := ⟨_, _, _, rfl⟩
    rw [plR_succ h0 h1 h2] at h
    simp only [Prod.mk.injEq] at h
    obtain ⟨_, rfl, _⟩ := h
    exact unsR_le h2 (unsR_le h1 (ih h0) (by decide)) (by decide)
theorem plR_len {d : ByteArray} {a a' : Nat} {e e' : Int} {k : Nat} {L : List Sp} (h : plR d a e k = (L, a', e')) : L.length = k := by
  induction k generalizing L a' e' with
  | zero => simp only [plR, Prod.mk.injEq] at h; rw [← h.1]; rfl
  | succ k ih =>
    obtain ⟨L0, a0, e0, h0⟩ : ∃ x y z, plR d a e k = (x, y, z) := ⟨_, _, _, rfl⟩
    obtain ⟨v1, a1, e1, h1⟩ : ∃ x y z, unsR d a0 e0 9 = (x, y, z) := ⟨_, _, _, rfl⟩
    obtain ⟨v2, a2, e2, h2⟩ : ∃ x y z, unsR d a1 e1 4 = (x, y, z) := ⟨_, _, _, rfl⟩
    rw [plR_succ h0 h1 h2] at h
    simp only [Prod.mk.injEq] at h
    obtain ⟨rfl, _⟩ := h
    rw [List.length_append, ih h0]; rfl
theorem dec_bad1 {d : ByteArray} {m : MsgT} {a : Nat} {e : Int} (h : rdM (min · 8) d = (m, a, e)) (hc : closeR d a e ≠ 0) : decP d = (msg0, 10) := by
  unfold decP; rw [h]; exact if_pos hc
theorem dec_bad2 {d : ByteArray} {m : MsgT} {a : Nat} {e : Int} (h : rdM (min · 8) d = (m, a, e)) (hc : closeR d a e = 0) (hk : chkM m ≠ 0) : decP d = (msg0, 10) := by
  unfold decP; rw [h]; dsimp only; rw [if_neg (by simpa using hc), if_pos hk]
theorem dec_bad3 {d : ByteArray} {m : MsgT} {a : Nat} {e : Int} (h : rdM (min · 8) d = (m, a, e)) (hc : closeR d a e = 0) (hk : chkM m = 0) (hz : encM m ≠ d) : decP d = (msg0, 10) := by
  unfold decP; rw [h]; dsimp only; rw [if_neg (by simpa using hc), if_neg (by simpa using hk), if_pos hz]
theorem dec_good {d : ByteArray} {m : MsgT} {a : Nat} {e : Int} (h : rdM (min · 8) d = (m, a, e)) (hc : closeR d a e = 0) (hk : chkM m = 0) (hz : encM m = d) : decP d = (m, 0) := by
  unfold decP; rw [h]; dsimp only; rw [if_neg (by simpa using hc), if_neg (by simpa using hk), if_neg (by simpa using hz)]
theorem rdec_bad1 {d : ByteArray} {m : MsgT} {a : Nat} {e : Int} (h : rdM id d = (m, a, e)) (hc : closeR d a e ≠ 0) : decR d = (msg0, 10) := by
  unfold decR; rw [h]; exact if_pos hc
theorem rdec_bad2 {d : ByteArray} {m : MsgT} {a : Nat} {e : Int} (h : rdM id d = (m, a, e)) (hc : closeR d a e = 0) (hk : chkM m ≠ 0) : decR d = (msg0, 10) := by
  unfold decR; rw [h]; dsimp only; rw [if_neg (by simpa using hc), if_pos hk]
theorem rdec_good {d : ByteArray} {m : MsgT} {a : Nat} {e : Int} (h : rdM id d = (m, a, e)) (hc : closeR d a e = 0) (hk : chkM m = 0) : decR d = (m, 0) := by
  unfold decR; rw [h]; dsimp only; rw [if_neg (by simpa using hc), if_neg (by simpa using hk)]
theorem chkM_eq (k n c cnt : Int) (r : Bool) (S O : List Sp) : chkM (k, r, n, c, cnt, S, O) = chk k n c cnt r S O := rfl
theorem encM_eq (k n c cnt : Int) (r : Bool) (S O : List Sp) : encM (k, r, n, c, cnt, S, O) = pkB (msgB k n c cnt r S O) := rfl
end Go.Proofs.Ytjamfmnlhiolkaa
