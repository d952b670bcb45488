/- What a hash has taken in (plain). -/
import Derived.Test.YtnicgkhffingmaaSA
import Derived.Test.YtnicgkhffingmaaRW
set_option linter.unusedVariables false
set_option linter.unusedSimpArgs false
namespace Go.Proofs.Ytnicgkhffingmaa
open Go Av
set_option maxRecDepth 20000
/-- What a hash has taken in, with the next k texts. -/
def cbS (A : ByteArray) (r : List ByteArray) : Nat → ByteArray
  | 0 => A
  | k + 1 => cbS A r k ++ r.getD k .empty
theorem cb_succ {A : ByteArray} {r : List ByteArray} {k : Nat} {p : ByteArray} (h : r[k]? = some p) : cbS A r k ++ p = cbS A r (k + 1) := by
  show _ = cbS A r k ++ r.getD k .empty
  rw [List.getD_eq_getElem?_getD, h]
  rfl
theorem cb_data (A : ByteArray) (r : List ByteArray) : ∀ k, k ≤ r.length → (cbS A r k).data.toList = A.data.toList ++ flat ((r.drop 0).take k)
  | 0, _ => by simp [cbS, flat]
  | k + 1, h => by
    have ih := cb_data A r k (by omega)
    obtain ⟨p, hp⟩ : ∃ p, r[k]? = some p := ⟨_, List.getElem?_eq_getElem (by omega)⟩
    rw [← cb_succ hp, ByteArray.data_append, Array.toList_append, ih, List.append_assoc]
    congr 1
    rw [List.drop_zero, List.take_add_one, hp]
    simp [flat]
theorem dl_size (A : ByteArray) : A.data.toList.length = A.size := by rw [Array.length_toList]; rfl
structure Hin (A : ByteArray) (L : List UInt8) (o n : Nat) (t : Int) (C : List Int) : Prop where
  hC : chn A.data.toList = C
  hn : n = A.data.toList.length - 64 * kk A.data.toList
  ht : t = 64 * (kk A.data.toList : Int)
  hL : o + n ≤ L.length
  hY : (L.drop o).take n = A.data.toList.drop (64 * kk A.data.toList)
structure Wd where
  i : Nat
  A : ByteArray
  L : List UInt8
  o : Nat
  m : Nat
  t : Int
  c0 : Int
  c1 : Int
  c2 : Int
  c3 : Int
  c4 : Int
  c5 : Int
  c6 : Int
  c7 : Int
structure Wj where
  j : Nat
/-- Write of a row. -/
theorem ac_WriteR (A : ByteArray) (L : List UInt8) (o n : Nat) (t p0 p1 p2 p3 p4 p5 p6 p7 : Int) (r : List ByteArray) (k : Nat) (hk : r.length = k) (h : Hin A L o n t [p0, p1, p2, p3, p4, p5, p6, p7]) (hs : (cbS A r k).size ≤ 1048576) (hk6 : k ≤ 6) : ∃ (L' : List UInt8) (o' n' : Nat) (t' : Int) (c0 c1 c2 c3 c4 c5 c6 c7 : Int), Hin (cbS A r k) L' o' n' t' [c0, c1, c2, c3, c4, c5, c6, c7] ∧
    ACalls Try.prog 6 [.pointer (some ⟨0, 0, none⟩), .slice (some ⟨2, 0, none⟩) k k] [some ⟨[.int .u32 p0, .int .u32 p1, .int .u32 p2, .int .u32 p3, .int .u32 p4, .int .u32 p5, .int .u32 p6, .int .u32 p7, .slice (some ⟨1, o, none⟩) n n, .int .u64 t, .int .i64 A.size], true, 1⟩, some ⟨L.map u8v, true, 1⟩, some ⟨r.map Value.string, false, 1⟩] (.int .i64 (cbS A r k).size)
      [some ⟨[.int .u32 c0, .int .u32 c1, .int .u32 c2, .int .u32 c3, .int .u32 c4, .int .u32 c5, .int .u32 c6, .int .u32 c7, .slice (some ⟨3, o', none⟩) n' n', .int .u64 t', .int .i64 (cbS A r k).size], true, 1⟩, none, none, some ⟨L'.map u8v, true, 1⟩] := by
  have hd := cb_data A r k (by omega)
  have l1 := dl_size A
  have l2 := dl_size (cbS A r k)
  obtain ⟨L', o', n', t', C', e1, e2, e3, e4, e5, H⟩ := ac_Write (A.size : Int) A.data.toList (cbS A r k).data.toList L o n t p0 p1 p2 p3 p4 p5 p6 p7 r 0 k h.hC h.hn h.ht h.hL h.hY (by omega) hd (by omega) (by omega) (by omega)
  have hl : C'.length = 8 := by rw [← e1, chn_len]
  rw [l2] at H
  exact ⟨L', o', n', t', _, _, _, _, _, _, _, _, ⟨by rw [e1, list8_eq hl], e2, e3, e4, e5⟩, H⟩
theorem ac_sumR (A : ByteArray) (L : List UInt8) (o n : Nat) (t p0 p1 p2 p3 p4 p5 p6 p7 : Int) (h : Hin A L o n t [p0, p1, p2, p3, p4, p5, p6, p7]) (hs : A.size ≤ 1048576) : ACalls Try.prog 7 [.pointer (some ⟨0, 0, none⟩)] [some ⟨[.int .u32 p0, .int .u32 p1, .int .u32 p2, .int .u32 p3, .int .u32 p4, .int .u32 p5, .int .u32 p6, .int .u32 p7, .slice (some ⟨1, o, none⟩) n n, .int .u64 t, .int .i64 A.size], false, 1⟩, some ⟨L.map u8v, false, 1⟩] (.string (dig 0 A.data.toList)) [none, none] :=
  ac_hsum (A.size : Int) A.data.toList L o n t p0 p1 p2 p3 p4 p5 p6 p7 h.hC h.hn h.ht h.hL h.hY (by rw [dl_size]; exact hs)
theorem ok_str_addE {P : Program} {ρ : Operand → Option Value} {m : Mem} {d : Option Tmp} {t : TypeId} {pp : String} {af : Array Edge} {g : Option (Nat × Bool)} {xt yt : TypeId} {x y : Operand} {s u T : ByteArray} (hx : ρ x = some (.string s)) (hy : ρ y = some (.string u)) (e : s ++ u = T) (h : T.size ≤ 9223372036854775807) : OpOK P ⟨d, .binOp .add xt x y yt, t, pp, af, g⟩ ρ m (.string T) m := by
  subst e
  exact ok_str_add hx hy (by rw [ByteArray.size_append] at h; omega)
theorem gof_id (x k : Nat) (i : Nat) (h : i ≤ 21) : gOf [0, 1, 2, 3, 4, 5, 6, 7, 8, 9, 10, 11, 12, 13, 14, 15, 16, 17, 18, 19, 20, 21, x] k i = i := by
  have e : i = 0 ∨ i = 1 ∨ i = 2 ∨ i = 3 ∨ i = 4 ∨ i = 5 ∨ i = 6 ∨ i = 7 ∨ i = 8 ∨ i = 9 ∨ i = 10 ∨ i = 11 ∨ i = 12 ∨ i = 13 ∨ i = 14 ∨ i = 15 ∨ i = 16 ∨ i = 17 ∨ i = 18 ∨ i = 19 ∨ i = 20 ∨ i = 21 := by omega
  rcases e with rfl | rfl | rfl | rfl | rfl | rfl | rfl | rfl | rfl | rfl | rfl | rfl | rfl | rfl | rfl | rfl | rfl | rfl | rfl | rfl | rfl | rfl <;> rfl
theorem rows_ren {R : Nat → List ByteArray} {n : Nat} {g : Nat → Nat} (hn : n ≤ 20) (hg : ∀ i, i ≤ 21 → g i = i) : renL g (rowsC R n) = rowsC R n := by
  rw [renL_eq]
  unfold rowsC
  rw [List.map_map]
  refine List.map_congr_left fun i hi => ?_
  have hi := List.mem_range.1 hi
  show ren g (rowV i (R i)) = rowV i (R i)
  unfold rowV
  split
  · show Value.slice (some ⟨g 21, 0, some 1⟩) 0 0 = _
    rw [hg 21 (by omega)]
  · show Value.slice (some ⟨g (1 + i), 0, none⟩) _ _ = _
    rw [hg (1 + i) (by omega)]
end Go.Proofs.Ytnicgkhffingmaa
