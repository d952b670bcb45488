/- Whole boxes stored anew, made anew, or left alone. -/
import Derived.Test.YtcojimifplhodaaW6
namespace Go.Proofs.Ytcojimifplhodaa
open Go.RowKit
theorem At3.st {w : World} {b : Nat} {x0 x1 x2 : Value} (h : At3 w b x0 x1 x2) (y0 y1 y2 : Value) : At3 (((w.setCell ⟨b, 0, none⟩ y0).setCell ⟨b, 1, none⟩ y1).setCell ⟨b, 2, none⟩ y2) b y0 y1 y2 := by
  obtain ⟨h0, h1, h2⟩ := h
  refine ⟨?_, ?_, ?_⟩ <;> simp [go_sem, *]
theorem Fz3.st {w : World} {b : Nat} (h : Fz3 w b) (y0 y1 y2 : Value) : Fz3 (((w.setCell ⟨b, 0, none⟩ y0).setCell ⟨b, 1, none⟩ y1).setCell ⟨b, 2, none⟩ y2) b := by
  obtain ⟨h0, h1, h2⟩ := h
  refine ⟨?_, ?_, ?_⟩ <;> simp [go_sem, *]
theorem At3.oth3 {w : World} {c b : Nat} {z0 z1 z2 : Value} (h : At3 w c z0 z1 z2) (hn : b ≠ c) (y0 y1 y2 : Value) : At3 (((w.setCell ⟨b, 0, none⟩ y0).setCell ⟨b, 1, none⟩ y1).setCell ⟨b, 2, none⟩ y2) c z0 z1 z2 := by
  obtain ⟨h0, h1, h2⟩ := h
  refine ⟨?_, ?_, ?_⟩ <;> simp [*, World.cell?_setCell_far]
theorem Fz3.oth3 {w : World} {c b : Nat} (h : Fz3 w c) (hn : b ≠ c) (y0 y1 y2 : Value) : Fz3 (((w.setCell ⟨b, 0, none⟩ y0).setCell ⟨b, 1, none⟩ y1).setCell ⟨b, 2, none⟩ y2) c := by
  obtain ⟨h0, h1, h2⟩ := h
  refine ⟨?_, ?_, ?_⟩ <;> simp [*, go_sem]
theorem At4.oth3 {w : World} {c b : Nat} {z0 z1 z2 z3 : Value} (h : At4 w c z0 z1 z2 z3) (hn : b ≠ c) (y0 y1 y2 : Value) : At4 (((w.setCell ⟨b, 0, none⟩ y0).setCell ⟨b, 1, none⟩ y1).setCell ⟨b, 2, none⟩ y2) c z0 z1 z2 z3 := by
  obtain ⟨h0, h1, h2, h3⟩ := h
  refine ⟨?_, ?_, ?_, ?_⟩ <;> simp [*, World.cell?_setCell_far]
theorem Fz4.oth3 {w : World} {c b : Nat} (h : Fz4 w c) (hn : b ≠ c) (y0 y1 y2 : Value) : Fz4 (((w.setCell ⟨b, 0, none⟩ y0).setCell ⟨b, 1, none⟩ y1).setCell ⟨b, 2, none⟩ y2) c := by
  obtain ⟨h0, h1, h2, h3⟩ := h
  refine ⟨?_, ?_, ?_, ?_⟩ <;> simp [*, go_sem]
theorem At4.st {w : World} {b : Nat} {x0 x1 x2 x3 : Value} (h : At4 w b x0 x1 x2 x3) (y0 y1 y2 y3 : Value) : At4 ((((w.setCell ⟨b, 0, none⟩ y0).setCell ⟨b, 1, none⟩ y1).setCell ⟨b, 2, none⟩ y2).setCell ⟨b, 3, none⟩ y3) b y0 y1 y2 y3 := by
  obtain ⟨h0, h1, h2, h3⟩ := h
  refine ⟨?_, ?_, ?_, ?_⟩ <;> simp [go_sem, *]
theorem Fz4.st {w : World} {b : Nat} (h : Fz4 w b) (y0 y1 y2 y3 : Value) : Fz4 ((((w.setCell ⟨b, 0, none⟩ y0).setCell ⟨b, 1, none⟩ y1).setCell ⟨b, 2, none⟩ y2).setCell ⟨b, 3, none⟩ y3) b := by
  obtain ⟨h0, h1, h2, h3⟩ := h
  refine ⟨?_, ?_, ?_, ?_⟩ <;> simp [go_sem, *]
theorem At3.oth4 {w : World} {c b : Nat} {z0 z1 z2 : Value} (h : At3 w c z0 z1 z2) (hn : b ≠ c) (y0 y1 y2 y3 : Value) : At3 ((((w.setCell ⟨b, 0, none⟩ y0).setCell ⟨b, 1, none⟩ y1).setCell ⟨b, 2, none⟩ y2).setCell ⟨b, 3, none⟩ y3) c z0 z1 z2 := by
  obtain ⟨h0, h1, h2⟩ := h
  refine ⟨?_, ?_, ?_⟩ <;> simp [*, World.cell?_setCell_far]
theorem Fz3.oth4 {w : World} {c b : Nat} (h : Fz3 w c) (hn : b ≠ c) (y0 y1 y2 y3 : Value) : Fz3 ((((w.setCell ⟨b, 0, none⟩ y0).setCell ⟨b, 1, none⟩ y1).setCell ⟨b, 2, none⟩ y2).setCell ⟨b, 3, none⟩ y3) c := by
  obtain ⟨h0, h1, h2⟩ := h
  refine ⟨?_, ?_, ?_⟩ <;> simp [*, go_sem]
theorem At4.oth4 {w : World} {c b : Nat} {z0 z1 z2 z3 : Value} (h : At4 w c z0 z1 z2 z3) (hn : b ≠ c) (y0 y1 y2 y3 : Value) : At4 ((((w.setCell ⟨b, 0, none⟩ y0).setCell ⟨b, 1, none⟩ y1).setCell ⟨b, 2, none⟩ y2).setCell ⟨b, 3, none⟩ y3) c z0 z1 z2 z3 := by
  obtain ⟨h0, h1, h2, h3⟩ := h
  refine ⟨?_, ?_, ?_, ?_⟩ <;> simp [*, World.cell?_setCell_far]
theorem Fz4.oth4 {w : World} {c b : Nat} (h : Fz4 w c) (hn : b ≠ c) (y0 y1 y2 y3 : Value) : Fz4 ((((w.setCell ⟨b, 0, none⟩ y0).setCell ⟨b, 1, none⟩ y1).setCell ⟨b, 2, none⟩ y2).setCell ⟨b, 3, none⟩ y3) c := by
  obtain ⟨h0, h1, h2, h3⟩ := h
  refine ⟨?_, ?_, ?_, ?_⟩ <;> simp [*, go_sem]
theorem At3.al {w : World} {c : Nat} {z0 z1 z2 : Value} (h : At3 w c z0 z1 z2) (hn : c < w.heap.size) (ob : Obj) : At3 (w.alloc ob) c z0 z1 z2 := h.keep (bl0 ob) hn
theorem Fz3.al {w : World} {c : Nat} (h : Fz3 w c) (hn : c < w.heap.size) (ob : Obj) : Fz3 (w.alloc ob) c := h.keep (bl0 ob) hn
theorem At3.nw {w : World} {t : TypeId} (z0 z1 z2 : Value) : At3 (w.alloc (.cells #[z0, z1, z2] t)) w.heap.size z0 z1 z2 := by
  refine ⟨?_, ?_, ?_⟩ <;> simp
theorem Fz3.nw {w : World} {t : TypeId} (z0 z1 z2 : Value) : Fz3 (w.alloc (.cells #[z0, z1, z2] t)) w.heap.size := by
  refine ⟨?_, ?_, ?_⟩ <;> simp
theorem At4.al {w : World} {c : Nat} {z0 z1 z2 z3 : Value} (h : At4 w c z0 z1 z2 z3) (hn : c < w.heap.size) (ob : Obj) : At4 (w.alloc ob) c z0 z1 z2 z3 := h.keep (bl0 ob) hn
theorem Fz4.al {w : World} {c : Nat} (h : Fz4 w c) (hn : c < w.heap.size) (ob : Obj) : Fz4 (w.alloc ob) c := h.keep (bl0 ob) hn
theorem At4.nw {w : World} {t : TypeId} (z0 z1 z2 z3 : Value) : At4 (w.alloc (.cells #[z0, z1, z2, z3] t)) w.heap.size z0 z1 z2 z3 := by
  refine ⟨?_, ?_, ?_, ?_⟩ <;> simp
theorem Fz4.nw {w : World} {t : TypeId} (z0 z1 z2 z3 : Value) : Fz4 (w.alloc (.cells #[z0, z1, z2, z3] t)) w.heap.size := by
  refine ⟨?_, ?_, ?_, ?_⟩ <;> simp
end Go.Proofs.Ytcojimifplhodaa
