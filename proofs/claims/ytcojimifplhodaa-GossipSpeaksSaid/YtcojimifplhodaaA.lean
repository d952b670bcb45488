/- Small lemmas used by the walks of this seat: endings, worlds that keep what was there, and the bounds of a wrapped product. -/
import Derived.Test.YtcojimifplhodaaRows
import Derived.WalkKit
import Derived.ProofKit
import Derived.Lib.Hide
import Derived.Deep.QuietTactic
import Derived.BigQuiet
import Derived.WalkSpells
import Derived.WalkLawsBesides
import Derived.BigGuardPart
import Derived.Deep.RegionHeld3
import Derived.Deep.DrawnRows
import Derived.StillTailTactics
namespace Go.Proofs.Ytcojimifplhodaa
open Go.RowKit

def Ret (v : Value) (w : World) (e : Ending) (w' : World) : Prop := e = .returned v ∧ Below w.heap.size w w'
def RetS (v : Value) (w : World) (e : Ending) (w' : World) : Prop := e = .returned v ∧ w = w'
theorem ret_b {a b : Bool} (h : a = b) : Ending.returned (.bool a) = .returned (.bool b) := by rw [h]
theorem ret_i {k : IntKind} {a b : Int} (h : a = b) : Ending.returned (.int k a) = .returned (.int k b) := by rw [h]
theorem bl0 {w : World} (o : Obj) : Below w.heap.size w (w.alloc o) := (Below.refl _ w).alloc (Nat.le_refl _) o
theorem bl1 {w w' : World} {o : Obj} (h : Below (w.alloc o).heap.size (w.alloc o) w') : Below w.heap.size w w' :=
  (bl0 o).trans (h.mono (by simp))
theorem bl2 {w w' : World} {o1 o2 : Obj} (h : Below ((w.alloc o1).alloc o2).heap.size ((w.alloc o1).alloc o2) w') : Below w.heap.size w w' := bl1 (bl1 h)
theorem bl3 {w w' : World} {o1 o2 o3 : Obj} (h : Below (((w.alloc o1).alloc o2).alloc o3).heap.size (((w.alloc o1).alloc o2).alloc o3) w') : Below w.heap.size w w' := bl1 (bl1 (bl1 h))
theorem bt {W w1 w2 : World} (h : Below W.heap.size W w1) (k : Below w1.heap.size w1 w2) : Below W.heap.size W w2 := h.trans (k.mono h.size)
theorem bs1 {B : Nat} {W w1 : World} {b i : Nat} (h : Below B W w1) (hb : B ≤ b) (v : Value) : Below B W (w1.setCell ⟨b, i, none⟩ v) := h.setCell (p := ⟨b, i, none⟩) hb v
theorem bs3 {B : Nat} {W w1 : World} {b i j k : Nat} (h : Below B W w1) (hb : B ≤ b) (v0 v1 v2 : Value) : Below B W (((w1.setCell ⟨b, i, none⟩ v0).setCell ⟨b, j, none⟩ v1).setCell ⟨b, k, none⟩ v2) := bs1 (bs1 (bs1 h hb _) hb _) hb _
theorem bs4 {B : Nat} {W w1 : World} {b i j k l : Nat} (h : Below B W w1) (hb : B ≤ b) (v0 v1 v2 v3 : Value) : Below B W ((((w1.setCell ⟨b, i, none⟩ v0).setCell ⟨b, j, none⟩ v1).setCell ⟨b, k, none⟩ v2).setCell ⟨b, l, none⟩ v3) := bs1 (bs3 h hb _ _ _) hb _
theorem bcell {W w1 : World} (hb : Below W.heap.size W w1) : (∀ b o, b < W.heap.size → w1.cell? ⟨b, o, none⟩ = W.cell? ⟨b, o, none⟩) ∧ (∀ b o, b < W.heap.size → w1.frozen? ⟨b, o, none⟩ = W.frozen? ⟨b, o, none⟩) :=
  ⟨fun b o h => hb.cell (p := ⟨b, o, none⟩) h, fun b o h => hb.frozen (p := ⟨b, o, none⟩) h⟩
theorem kcell {B : Nat} {W w1 : World} {b o : Nat} {v : Value} (hb : Below B W w1) (h : W.cell? ⟨b, o, none⟩ = some v) (hl : b < B) : w1.cell? ⟨b, o, none⟩ = some v :=
  (hb.cell (p := ⟨b, o, none⟩) hl).trans h
theorem kfroz {B : Nat} {W w1 : World} {b o : Nat} {v : Bool} (hb : Below B W w1) (h : W.frozen? ⟨b, o, none⟩ = v) (hl : b < B) : w1.frozen? ⟨b, o, none⟩ = v :=
  (hb.frozen (p := ⟨b, o, none⟩) hl).trans h
def At3 (w : World) (b : Nat) (x0 x1 x2 : Value) : Prop := w.cell? ⟨b, 0, none⟩ = some x0 ∧ w.cell? ⟨b, 1, none⟩ = some x1 ∧ w.cell? ⟨b, 2, none⟩ = some x2
theorem At3.keep {B : Nat} {W w1 : World} {b : Nat} {x0 x1 x2 : Value} (h : At3 W b x0 x1 x2) (hb : Below B W w1) (hl : b < B) : At3 w1 b x0 x1 x2 := by
  obtain ⟨h0, h1, h2⟩ := h
  exact ⟨kcell hb h0 hl, kcell hb h1 hl, kcell hb h2 hl⟩
theorem At3.keepd {B : Nat} {W w1 : World} {b : Nat} {x0 x1 x2 : Value} (h : At3 W b x0 x1 x2) (hb : Below B W.drew w1) (hl : b < B) : At3 w1 b x0 x1 x2 := At3.keep (W := W.drew) h hb hl
def Fz3 (w : World) (b : Nat) : Prop := w.frozen? ⟨b, 0, none⟩ = false ∧ w.frozen? ⟨b, 1, none⟩ = false ∧ w.frozen? ⟨b, 2, none⟩ = false
theorem Fz3.keep {B : Nat} {W w1 : World} {b : Nat} (h : Fz3 W b) (hb : Below B W w1) (hl : b < B) : Fz3 w1 b := by
  obtain ⟨h0, h1, h2⟩ := h
  exact ⟨kfroz hb h0 hl, kfroz hb h1 hl, kfroz hb h2 hl⟩
theorem Fz3.keepd {B : Nat} {W w1 : World} {b : Nat} (h : Fz3 W b) (hb : Below B W.drew w1) (hl : b < B) : Fz3 w1 b := Fz3.keep (W := W.drew) h hb hl
def At4 (w : World) (b : Nat) (x0 x1 x2 x3 : Value) : Prop := w.cell? ⟨b, 0, none⟩ = some x0 ∧ w.cell? ⟨b, 1, none⟩ = some x1 ∧ w.cell? ⟨b, 2, none⟩ = some x2 ∧ w.cell? ⟨b, 3, none⟩ = some x3
theorem At4.keep {B : Nat} {W w1 : World} {b : Nat} {x0 x1 x2 x3 : Value} (h : At4 W b x0 x1 x2 x3) (hb : Below B W w1) (hl : b < B) : At4 w1 b x0 x1 x2 x3 := by
  obtain ⟨h0, h1, h2, h3⟩ := h
  exact ⟨kcell hb h0 hl, kcell hb h1 hl, kcell hb h2 hl, kcell hb h3 hl⟩
theorem At4.keepd {B : Nat} {W w1 : World} {b : Nat} {x0 x1 x2 x3 : Value} (h : At4 W b x0 x1 x2 x3) (hb : Below B W.drew w1) (hl : b < B) : At4 w1 b x0 x1 x2 x3 := At4.keep (W := W.drew) h hb hl
def Fz4 (w : World) (b : Nat) : Prop := w.frozen? ⟨b, 0, none⟩ = false ∧ w.frozen? ⟨b, 1, none⟩ = false ∧ w.frozen? ⟨b, 2, none⟩ = false ∧ w.frozen? ⟨b, 3, none⟩ = false
theorem Fz4.keep {B : Nat} {W w1 : World} {b : Nat} (h : Fz4 W b) (hb : Below B W w1) (hl : b < B) : Fz4 w1 b := by
  obtain ⟨h0, h1, h2, h3⟩ := h
  exact ⟨kfroz hb h0 hl, kfroz hb h1 hl, kfroz hb h2 hl, kfroz hb h3 hl⟩
theorem Fz4.keepd {B : Nat} {W w1 : World} {b : Nat} (h : Fz4 W b) (hb : Below B W.drew w1) (hl : b < B) : Fz4 w1 b := Fz4.keep (W := W.drew) h hb hl
theorem pow8 (k : Nat) (h : k ≤ 8) : 1 ≤ (2 : Int) ^ k ∧ (2 : Int) ^ k ≤ 256 := by
  have : k = 0 ∨ k = 1 ∨ k = 2 ∨ k = 3 ∨ k = 4 ∨ k = 5 ∨ k = 6 ∨ k = 7 ∨ k = 8 := by omega
  rcases this with rfl | rfl | rfl | rfl | rfl | rfl | rfl | rfl | rfl <;> decide
theorem lpow (l : Int) (k : Nat) (h : k ≤ 8) (h1 : 2 ≤ l) (h2 : l ≤ 1024) : l ≤ l * 2 ^ k ∧ l * 2 ^ k ≤ 262144 := by
  have : k = 0 ∨ k = 1 ∨ k = 2 ∨ k = 3 ∨ k = 4 ∨ k = 5 ∨ k = 6 ∨ k = 7 ∨ k = 8 := by omega
  rcases this with rfl | rfl | rfl | rfl | rfl | rfl | rfl | rfl | rfl <;> simp <;> omega
theorem wpow (l : Int) (k : Nat) (h : k ≤ 8) (h1 : 2 ≤ l) (h2 : l ≤ 1024) : wrap64 (l * 2 ^ k) = l * 2 ^ k := by
  have := lpow l k h h1 h2
  exact IntWalk.wrap64_in _ ⟨by omega, by omega⟩
end Go.Proofs.Ytcojimifplhodaa
