/- The pages of data, as a range over a function sees them: the iterator's contract. -/
import Derived.RangeFuncNested
import Derived.RangeFuncBound
import Derived.RangeFuncCalls
import Derived.RangeFuncLeaves
import Derived.Shelf.Abstract
import Derived.Shelf.RegionOpen
import Derived.WalkKit
import Derived.OwnWalkIn
import Derived.TacticsInMore
import Derived.LoopNIn
import Derived.LoopIn
import Derived.Test.YtjofcjogbopkjaaGreatProg
import Derived.IntWalk
import Derived.Test.YtjofcjogbopkjaaGreatVK
import Derived.Test.YtjofcjogbopkjaaGreatI
set_option linter.unusedVariables false
set_option linter.unusedSimpArgs false
namespace Go.Proofs.YtjofcjogbopkjaaGreat
open Go Go.RowKit Go.Shelf Av
attribute [local go_sem] Oper.semAt_some
def pgS (d : ByteArray) (size : Int) (k : Nat) : ByteArray := d.extract (k * size).toNat (min ((k + 1) * size) d.size).toNat
def pgEn (d : ByteArray) (size : Int) (N : Nat) (x : Fin N) : Array Value := #[.int .i64 (x.val : Int), .string (pgS d size x.val)]
theorem run_slice_str (d : ByteArray) (x y : Int) (w : World) (h : 0 ≤ x ∧ x ≤ y ∧ y ≤ d.size) : (Instr.slice 9 (.string d) (some (.int .i64 x)) (some (.int .i64 y)) none).run Tryz.prog w = .ok (.string (d.extract x.toNat y.toNat)) w := by
  simp only [Instr.slice, Sem.run_bind, run_und (Ty.eq (P := Tryz.prog) (t := 9)), Result.andThen_ok]
  simp [Instr.sliceBounds, Instr.sliceBound, asIntOf]
  rw [if_pos (by omega), if_pos (by omega)]
set_option maxRecDepth 100000 in
set_option maxHeartbeats 4000000 in
theorem pages1_in (F : Fence) (n : Nat) (h74 : F.fn 74) (hro : F.round = none) (hn : 1 ≤ n) (l : Nat) (b1 b2 : Nat × Nat) (size : Int) (d : ByteArray) (N : Nat) (hs : 1 ≤ size ∧ size ≤ 1000000) (hd : d.size ≤ 1000000) (hN : ∀ k : Nat, k < N ↔ (k : Int) * size < d.size) (hNb : N ≤ 1000000) (J Jx : List (Fin N) → World → Prop)
    (hY : ∀ pre x W, J pre W → pre.length < N → YieldAt F (n - 1) Tryz.prog l (pgEn d size N x) W fun e W' =>
      (e = .returned (.bool true) ∧ J (pre ++ [x]) W' ∧ Kcap [b1, b2] W W') ∨ (e = .returned (.bool false) ∧ Jx (pre ++ [x]) W'))
    (W : World) (h1 : W.cell? ⟨b1.1, b1.2, none⟩ = some (.int .i64 size)) (h2 : W.cell? ⟨b2.1, b2.2, none⟩ = some (.string d)) (h0 : J [] W) :
    CallsIn F n Tryz.prog 74 #[.func (.yield l) #[] #[], .pointer (some ⟨b1.1, b1.2, none⟩), .pointer (some ⟨b2.1, b2.2, none⟩)] W fun e W' => (∃ v, e = .returned v) ∧
      ((∃ ys, ys = List.finRange N ∧ J ys W') ∨ (∃ pre, True ∧ Jx pre W')) := by
  refine callsIn_of_wp Tryz.func74 rfl h74 ?_ hro
  simp only [Tryz.ntmps74, List.size_toArray, List.length_cons, List.length_nil, Nat.reduceAdd, Nat.reduceSub, Array.replicate_succ, Array.replicate_zero, List.push_toArray, List.append_toArray, List.nil_append, List.cons_append]
  gi_wp2
  gi_loopw [4] (fun i wr => ∃ k : Nat, k ≤ N ∧ i = .int .i64 k ∧ J ((List.finRange N).take k) wr ∧ wr.cell? ⟨b1.1, b1.2, none⟩ = some (.int .i64 size) ∧ wr.cell? ⟨b2.1, b2.2, none⟩ = some (.string d))
    (fun i _ => N - (intOf i).toNat)
  case atStart => exact ⟨0, Nat.zero_le _, rfl, h0, h1, h2⟩
  case round =>
    obtain ⟨k, hk, rfl, hJs, c1, c2⟩ := hrel
    by_cases hlt : k < N
    · have hlt2 := (hN k).1 hlt
      obtain ⟨fn, tmps, assign, body, hy, hR⟩ := hY _ ⟨k, hlt⟩ wr hJs (by rw [List.length_take, List.length_finRange]; omega)
      dsimp only [pgEn] at hy
      have htk : (List.finRange N)[k]?.toList = [⟨k, hlt⟩] := by rw [List.getElem?_eq_getElem (by rw [List.length_finRange]; exact hlt)]; simp
      have hm0 : 0 ≤ (k : Int) * size := Int.mul_nonneg (by omega) (by omega)
      have hm1 : ((k : Int) + 1) * size = (k : Int) * size + size := by rw [Int.add_mul, Int.one_mul]
      have w1 : RowKit.wrap64 ((k : Int) * size) = (k : Int) * size := (by unfold RowKit.wrap64; omega)
      have w2 : RowKit.wrap64 (((k : Int) + 1) * size) = ((k : Int) + 1) * size := (by unfold RowKit.wrap64; omega)
      by_cases hmin : (k : Int) * size + size ≤ d.size
      · have s1 := run_slice_str d ((k : Int) * size) ((k : Int) * size + size) wr (by omega)
        have e0 : pgS d size k = d.extract ((k : Int) * size).toNat ((k : Int) * size + size).toNat := by unfold pgS; rw [hm1, Int.min_eq_left hmin]
        rw [e0] at hy
        gi_wp2
        refine hR.mono ?_
        rintro e W3 (⟨rfl, hJ3, hk3⟩ | ⟨rfl, hJx3⟩)
        · have d1 := (hk3 b1 (by simp)).trans c1
          have d2 := (hk3 b2 (by simp)).trans c2
          gi_wp2
          go_roundw
          case rel => exact ⟨k + 1, hlt, by simp, by rw [List.take_add_one, htk]; exact hJ3, d1, d2⟩
          case measure => simp [intOf]; omega
        · gi_wp2
          refine bodyPost_ret (results_none rfl _ _ _) rfl ?_
          exact ⟨⟨_, rfl⟩, .inr ⟨_, trivial, hJx3⟩⟩
      · have s2 := run_slice_str d ((k : Int) * size) d.size wr (by omega)
        have e0 : pgS d size k = d.extract ((k : Int) * size).toNat d.size := by unfold pgS; rw [hm1, Int.min_eq_right (by omega)]; rfl
        rw [e0] at hy
        gi_wp2
        refine hR.mono ?_
        rintro e W3 (⟨rfl, hJ3, hk3⟩ | ⟨rfl, hJx3⟩)
        · have d1 := (hk3 b1 (by simp)).trans c1
          have d2 := (hk3 b2 (by simp)).trans c2
          gi_wp2
          go_roundw
          case rel => exact ⟨k + 1, hlt, by simp, by rw [List.take_add_one, htk]; exact hJ3, d1, d2⟩
          case measure => simp [intOf]; omega
        · gi_wp2
          refine bodyPost_ret (results_none rfl _ _ _) rfl ?_
          exact ⟨⟨_, rfl⟩, .inr ⟨_, trivial, hJx3⟩⟩
    · obtain rfl : k = N := by omega
      have hge : ¬ (k : Int) * size < d.size := fun h => hlt ((hN k).2 h)
      have hm0 : 0 ≤ (k : Int) * size := Int.mul_nonneg (by omega) (by omega)
      have hm2 : (k : Int) * size ≤ 1000000 * 1000000 := Int.mul_le_mul (by omega) hs.2 (by omega) (by omega)
      have w1 : RowKit.wrap64 ((k : Int) * size) = (k : Int) * size := (by unfold RowKit.wrap64; omega)
      gi_wp2
      go_end0
      rw [List.take_of_length_le (by rw [List.length_finRange]; exact Nat.le_refl _)] at hJs
      exact ⟨⟨_, rfl⟩, .inl hJs⟩
/-- The pages of data: the iterator's contract. -/
theorem it_pages (size : Int) (d : ByteArray) (N : Nat) (hs : 1 ≤ size ∧ size ≤ 1000000) (hd : d.size ≤ 1000000) (hN : ∀ k : Nat, k < N ↔ (k : Int) * size < d.size) (hNb : N ≤ 1000000) : ItOK Tryz.prog 74 [.int .i64 size, .string d] N (pgEn d size N) := ⟨fun bs w hl hc l J Jx W hW _ _ hY h0 => by
  match bs, hl with
  | [b1, b2], _ =>
    have c1 := hc 0 b1 _ rfl rfl
    have c2 := hc 1 b2 _ rfl rfl
    have d1 := (hW.cell (p := ⟨b1.1, b1.2, none⟩) (World.block_lt_of_cell? _ _ c1)).trans c1
    have d2 := (hW.cell (p := ⟨b2.1, b2.2, none⟩) (World.block_lt_of_cell? _ _ c2)).trans c2
    exact pages1_in (fw none) 2 trivial rfl (by decide) l b1 b2 size d N hs hd hN hNb J Jx hY W d1 d2 h0⟩
end Go.Proofs.YtjofcjogbopkjaaGreat
