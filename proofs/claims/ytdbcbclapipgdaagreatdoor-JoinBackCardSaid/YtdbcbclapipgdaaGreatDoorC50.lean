/- Join: bytes read. -/
import Derived.Test.YtdbcbclapipgdaaGreatDoorVO
import Derived.Test.YtdbcbclapipgdaaGreatDoorJ
import Derived.Test.YtdbcbclapipgdaaGreatDoorC19
set_option linter.unusedVariables false
set_option linter.unusedSimpArgs false
namespace Go.Proofs.YtdbcbclapipgdaaGreatDoor
open Go Av
set_option maxRecDepth 20000
/-- So many bytes of a code, read. -/
def cdR (d : ByteArray) (a : Nat) (e : Int) : Nat → List Int × Nat × Int
  | 0 => ([], a, e)
  | k + 1 => ((cdR d a e k).1 ++ [(unsR d (cdR d a e k).2.1 (cdR d a e k).2.2 8).1], (unsR d (cdR d a e k).2.1 (cdR d a e k).2.2 8).2)
theorem cdR_succ {d : ByteArray} {a a0 a1 : Nat} {e e0 e1 v1 : Int} {k : Nat} {L : List Int} (h : cdR d a e k = (L, a0, e0)) (h1 : unsR d a0 e0 8 = (v1, a1, e1)) : cdR d a e (k + 1) = (L ++ [v1], a1, e1) := by
  rw [cdR, h]
  dsimp only
  rw [h1]
theorem cdR_rng {d : ByteArray} {a a' : Nat} {e e' : Int} {k : Nat} {L : List Int} (h : cdR d a e k = (L, a', e')) : ∀ z ∈ L, 0 ≤ z ∧ z < 256 := by
  induction k generalizing L a' e' with
  | zero =>
    simp only [cdR, Prod.mk.injEq] at h
    intro z hz
    rw [← h.1] at hz
    cases hz
  | succ k ih =>
    obtain ⟨L0, a0, e0, h0⟩ : ∃ x y z, cdR d a e k = (x, y, z) := ⟨_, _, _, rfl⟩
    obtain ⟨v1, a1, e1, h1⟩ : ∃ x y z, unsR d a0 e0 8 = (x, y, z) := ⟨_, _, _, rfl⟩
    rw [cdR_succ h0 h1] at h
    simp only [Prod.mk.injEq] at h
    obtain ⟨rfl, _⟩ := h
    intro z hz
    rcases List.mem_append.1 hz with hz | hz
    · exact ih h0 z hz
    · rw [List.mem_singleton] at hz
      subst hz
      have := unsR_rng h1 (by decide)
      rwa [show ((2 : Int) ^ (8 : Int).toNat) = 256 from rfl] at this
structure Cj where
  i : Nat
  L : List Int
  a : Nat
  e : Int
  d2 : ByteArray
  a2 : Int
set_option maxHeartbeats 16000000 in
theorem ac_jdecA (d : ByteArray) (hd : d.size ≤ 1000) (a1 a2 a3 a5 : Nat) (e1 e2 e3 e5 no c : Int) (t : ByteArray) (L : List Int) (h1 : flgR d 0 0 = (false, a1, e1)) (h2 : txtR d a1 e1 32 = (t, a2, e2)) (h3 : unsR d a2 e2 31 = (no, a3, e3)) (h5 : cdR d a3 e3 8 = (L, a5, e5)) (hc : closeR d a5 e5 = c) : ACalls Tryz.prog 91 [.string d] [] (.tuple #[.agg #[.string t, .int .i64 no, .int .i64 (-1), .string ⟨(L.map b8).toArray⟩], .bool (decide (c = 0))]) [] := by
  have l1 := flgR_le h1 (Nat.zero_le _)
  have l2 := txtR_le h2 l1 (by decide)
  have l3 := unsR_le h3 l2 (by decide)
  have C0 := ac_newR d (by omega)
  have C1 := ac_flgR 0 e1 false 0 a1 d h1 (Nat.zero_le _) (by omega)
  have C2 := ac_txtR 32 e1 e2 t a1 a2 d h2 l1 (by omega) (by decide)
  have C3 := ac_unsR 31 e2 e3 no a2 a3 d h3 l2 (by omega) (by decide)
  refine acalls_law Tryz.func91 rfl rfl rfl ?_
  refine aw_ghost 1 rfl ?_
  repeat' first | intro h1 | intro h1 | refine st ?_ | refine stMW [] C0 ?_ | refine stMW [2] C1 ?_ | refine stMW [2] C2 ?_ | refine stMW [2] C3 ?_ | refine stm ?_ | refine Ja ?_ | refine Jb ?_ | refine Jc ?_ | refine Jd ?_ | refine Je ?_ | refine Jf ?_ | refine Jg ?_ | refine Jh ?_ ?_ | refine Ji ?_ ?_ | refine Jj ?_ ?_ | refine run_nil ?_ | refine sd ?_ | refine sdl ?_ | refine sdm (n := 1) ?_ | refine sdm ?_ | refine sdb ?_ | refine Jk ?_ | refine Jl ?_ | refine Jm ?_ | refine Jn ?_ ?_ | refine Jo ?_ ?_ | refine Jp ?_ ?_ | refine rund_nil ?_ | refine Jz ?_ | refine Jw ?_ | refine Jx (id := 13) [0,0,2,6,7,31] 4 ?_ | refine aw_block ?_ | refine Jq ?_ | refine Jr ?_ | refine Js ?_ | refine Jt ?_ | refine Ju ?_ ?_ | refine Jv ?_ ?_ | refine Jy ?_ | refine aw_exit ?_ | refine aw_ret ?_ | refine pp_ret ?_ | refine pp_normal ?_
  all_goals try (exfalso; omega)
  clear C0 C1 C2 C3
  refine aw_loopg
    (S := fun y : Cj => [(2, .pointer (some ⟨1, 0, none⟩)), (4, .pointer (some ⟨2, 0, none⟩)), (5, .pointer (some ⟨3, 0, none⟩)), (7, .slice (some ⟨0, 0, none⟩) y.i y.i), (23, .int .i64 y.i)])
    (B := fun y : Cj => [some ⟨List.map (Value.int .u8) y.L, true, 1⟩, some ⟨[.string ⟨#[]⟩, .int .i64 0, .int .i64 0, .string ⟨#[]⟩], true, 1⟩, some ⟨[.string d, .int .i64 (y.a : Int), .int .i64 y.e], true, 1⟩, some ⟨[.string t, .int .i64 no, .int .i64 (-1), .string ⟨#[]⟩], true, 1⟩])
    (R := fun y : Cj => y.i ≤ 8 ∧ cdR d a3 e3 y.i = (y.L, y.a, y.e) ∧ y.L.length = y.i ∧ y.a ≤ 8 * d.size)
    (μ := fun y : Cj => 8 - y.i) ⟨0, [], a3, e3, d, 0⟩ (fitsD [0, 1, 2, 3]) ⟨Nat.zero_le _, rfl, rfl, l3⟩ ?_
  rintro ⟨i, Li, ai, ei, d2, ad2⟩ ⟨g1, g2, g3, g4⟩
  dsimp only at *
  by_cases hi : i < 8
  · obtain ⟨v1, a6, e6, h6⟩ : ∃ v z e1, unsR d ai ei 8 = (v, z, e1) := ⟨_, _, _, rfl⟩
    have l6 := unsR_le h6 g4 (by decide)
    have hv := unsR_rng h6 (by decide)
    rw [show ((2 : Int) ^ (8 : Int).toNat) = 256 from rfl] at hv
    have hn := cdR_succ g2 h6
    have C6 := ac_unsR 8 ei e6 v1 ai a6 d h6 g4 (by omega) (by decide)
    repeat' first | intro h1 | intro h1 | refine stm (h := by (apply ok_append (cs := List.map (Value.int .u8) (Li ++ [v1])) (olds := List.map (Value.int .u8) Li); rfl; rfl; rfl; rfl; rfl; rfl; (focus (apply Src.slc; rfl; exact Ty.eq; rfl; exact Nat.le_of_ble_eq_true rfl; exact TakeR.eq (by ((repeat constructor); first | done | fail)); rfl; rfl)); (focus (simp; omega)); (focus (apply take_full; simp; omega)); (focus (rw [List.map_append]; rfl)); omega; (focus ((repeat constructor); first | done | fail)))) ?_ | refine st ?_ | refine stMW [2] C6 ?_ | refine stm ?_ | refine Ja ?_ | refine Jb ?_ | refine Jc ?_ | refine Jd ?_ | refine Je ?_ | refine Jf ?_ | refine Jg ?_ | refine Jh ?_ ?_ | refine Ji ?_ ?_ | refine Jj ?_ ?_ | refine run_nil ?_ | refine sd ?_ | refine sdl ?_ | refine sdm (n := 1) ?_ | refine sdm ?_ | refine sdb ?_ | refine Jk ?_ | refine Jl ?_ | refine Jm ?_ | refine Jn ?_ ?_ | refine Jo ?_ ?_ | refine Jp ?_ ?_ | refine rund_nil ?_ | refine Jz ?_ | refine Jw ?_ | refine Jx (id := 13) [0,0,2,6,7,31] 4 ?_ | refine aw_block ?_ | refine Jq ?_ | refine Jr ?_ | refine Js ?_ | refine Jt ?_ | refine Ju ?_ ?_ | refine Jv ?_ ?_ | refine Jy ?_ | refine aw_exit ?_ | refine aw_ret ?_ | refine pp_ret ?_ | refine pp_normal ?_
    all_goals first | exact Exists.intro ⟨i + 1, Li ++ [v1], a6, e6, d, 0⟩ ⟨fitsD [5, 1, 2, 3], ⟨hi, hn, by rw [List.length_append, g3]; rfl, l6⟩, by dsimp only; omega⟩ | (exfalso; omega)
  · obtain rfl : i = 8 := by omega
    rw [g2] at h5
    simp only [Prod.mk.injEq] at h5
    obtain ⟨rfl, rfl, rfl⟩ := h5
    have hbu := bytes_u8 Li (fun z hz => by have := cdR_rng g2 z hz; omega)
    have CC := ac_closeR ei c ai d hc g4 (by omega)
    clear hc
    repeat' first | intro h1 | intro h1 | refine st (h := ok_bytes_str (l := Li.map b8) rfl rfl (by simp; omega) ((take_full (by simp; omega)).trans hbu)) ?_ | refine st ?_ | refine stRW [2] CC ?_ | refine sdRW [2] CC ?_ | refine stm ?_ | refine Ja ?_ | refine Jb ?_ | refine Jc ?_ | refine Jd ?_ | refine Je ?_ | refine Jf ?_ | refine Jg ?_ | refine Jh ?_ ?_ | refine Ji ?_ ?_ | refine Jj ?_ ?_ | refine run_nil ?_ | refine sd ?_ | refine sdl ?_ | refine sdm (n := 1) ?_ | refine sdm ?_ | refine sdb ?_ | refine Jk ?_ | refine Jl ?_ | refine Jm ?_ | refine Jn ?_ ?_ | refine Jo ?_ ?_ | refine Jp ?_ ?_ | refine rund_nil ?_ | refine Jz ?_ | refine Jw ?_ | refine Jx (id := 13) [0,0,2,6,7,31] 4 ?_ | refine aw_block ?_ | refine Jq ?_ | refine Jr ?_ | refine Js ?_ | refine Jt ?_ | refine Ju ?_ ?_ | refine Jv ?_ ?_ | refine Jy ?_ | refine aw_exit ?_ | refine aw_ret ?_ | refine pp_ret ?_ | refine pp_normal ?_
    all_goals first
      | rfl
      | (exfalso; omega)
      | (simp [retOf]; done)
      | (exfalso; simp_all; done)
      | (exfalso; simp only [Bool.not_eq_true', Bool.not_eq_false', decide_eq_true_eq, decide_eq_false_iff_not, Bool.not_false, Bool.not_true] at *; omega)
set_option maxHeartbeats 16000000 in
theorem ac_jdecB (d : ByteArray) (hd : d.size ≤ 1000) (a1 a2 a3 a4 a5 : Nat) (e1 e2 e3 e4 e5 no nd c : Int) (t : ByteArray) (L : List Int) (h1 : flgR d 0 0 = (true, a1, e1)) (h2 : txtR d a1 e1 32 = (t, a2, e2)) (h3 : unsR d a2 e2 31 = (no, a3, e3)) (h4 : unsR d a3 e3 5 = (nd, a4, e4)) (h5 : cdR d a4 e4 8 = (L, a5, e5)) (hc : closeR d a5 e5 = c) : ACalls Tryz.prog 91 [.string d] [] (.tuple #[.agg #[.string t, .int .i64 no, .int .i64 nd, .string ⟨(L.map b8).toArray⟩], .bool (decide (c = 0))]) [] := by
  have l1 := flgR_le h1 (Nat.zero_le _)
  have l2 := txtR_le h2 l1 (by decide)
  have l3 := unsR_le h3 l2 (by decide)
  have l4 := unsR_le h4 l3 (by decide)
  have hn4 := unsR_rng h4 (by decide)
  rw [show ((2 : Int) ^ (5 : Int).toNat) = 32 from rfl] at hn4
  have C0 := ac_newR d (by omega)
  have C1 := ac_flgR 0 e1 true 0 a1 d h1 (Nat.zero_le _) (by omega)
  have C2 := ac_txtR 32 e1 e2 t a1 a2 d h2 l1 (by omega) (by decide)
  have C3 := ac_unsR 31 e2 e3 no a2 a3 d h3 l2 (by omega) (by decide)
  have C4 := ac_unsR 5 e3 e4 nd a3 a4 d h4 l3 (by omega) (by decide)
  refine acalls_law Tryz.func91 rfl rfl rfl ?_
  refine aw_ghost 1 rfl ?_
  repeat' first | intro h1 | intro h1 | refine st ?_ | refine stMW [] C0 ?_ | refine stMW [2] C1 ?_ | refine stMW [2] C2 ?_ | refine stMW [2] C3 ?_ | refine stMW [2] C4 ?_ | refine stm ?_ | refine Ja ?_ | refine Jb ?_ | refine Jc ?_ | refine Jd ?_ | refine Je ?_ | refine Jf ?_ | refine Jg ?_ | refine Jh ?_ ?_ | refine Ji ?_ ?_ | refine Jj ?_ ?_ | refine run_nil ?_ | refine sd ?_ | refine sdl ?_ | refine sdm (n := 1) ?_ | refine sdm ?_ | refine sdb ?_ | refine Jk ?_ | refine Jl ?_ | refine Jm ?_ | refine Jn ?_ ?_ | refine Jo ?_ ?_ | refine Jp ?_ ?_ | refine rund_nil ?_ | refine Jz ?_ | refine Jw ?_ | refine Jx (id := 13) [0,0,2,6,7,31] 4 ?_ | refine aw_block ?_ | refine Jq ?_ | refine Jr ?_ | refine Js ?_ | refine Jt ?_ | refine Ju ?_ ?_ | refine Jv ?_ ?_ | refine Jy ?_ | refine aw_exit ?_ | refine aw_ret ?_ | refine pp_ret ?_ | refine pp_normal ?_
  all_goals try (exfalso; omega)
  clear C0 C1 C2 C3 C4
  refine aw_loopg
    (S := fun y : Cj => [(2, .pointer (some ⟨1, 0, none⟩)), (4, .pointer (some ⟨2, 0, none⟩)), (5, .pointer (some ⟨3, 0, none⟩)), (7, .slice (some ⟨0, 0, none⟩) y.i y.i), (23, .int .i64 y.i)])
    (B := fun y : Cj => [some ⟨List.map (Value.int .u8) y.L, true, 1⟩, some ⟨[.string ⟨#[]⟩, .int .i64 0, .int .i64 0, .string ⟨#[]⟩], true, 1⟩, some ⟨[.string d, .int .i64 (y.a : Int), .int .i64 y.e], true, 1⟩, some ⟨[.string t, .int .i64 no, .int .i64 nd, .string ⟨#[]⟩], true, 1⟩])
    (R := fun y : Cj => y.i ≤ 8 ∧ cdR d a4 e4 y.i = (y.L, y.a, y.e) ∧ y.L.length = y.i ∧ y.a ≤ 8 * d.size)
    (μ := fun y : Cj => 8 - y.i) ⟨0, [], a4, e4, d, 0⟩ (fitsD [0, 1, 2, 3]) ⟨Nat.zero_le _, rfl, rfl, l4⟩ ?_
  rintro ⟨i, Li, ai, ei, d2, ad2⟩ ⟨g1, g2, g3, g4⟩
  dsimp only at *
  by_cases hi : i < 8
  · obtain ⟨v1, a6, e6, h6⟩ : ∃ v z e1, unsR d ai ei 8 = (v, z, e1) := ⟨_, _, _, rfl⟩
    have l6 := unsR_le h6 g4 (by decide)
    have hv := unsR_rng h6 (by decide)
    rw [show ((2 : Int) ^ (8 : Int).toNat) = 256 from rfl] at hv
    have hn := cdR_succ g2 h6
    have C6 := ac_unsR 8 ei e6 v1 ai a6 d h6 g4 (by omega) (by decide)
    repeat' first | intro h1 | intro h1 | refine stm (h := by (apply ok_append (cs := List.map (Value.int .u8) (Li ++ [v1])) (olds := List.map (Value.int .u8) Li); rfl; rfl; rfl; rfl; rfl; rfl; (focus (apply Src.slc; rfl; exact Ty.eq; rfl; exact Nat.le_of_ble_eq_true rfl; exact TakeR.eq (by ((repeat constructor); first | done | fail)); rfl; rfl)); (focus (simp; omega)); (focus (apply take_full; simp; omega)); (focus (rw [List.map_append]; rfl)); omega; (focus ((repeat constructor); first | done | fail)))) ?_ | refine st ?_ | refine stMW [2] C6 ?_ | refine stm ?_ | refine Ja ?_ | refine Jb ?_ | refine Jc ?_ | refine Jd ?_ | refine Je ?_ | refine Jf ?_ | refine Jg ?_ | refine Jh ?_ ?_ | refine Ji ?_ ?_ | refine Jj ?_ ?_ | refine run_nil ?_ | refine sd ?_ | refine sdl ?_ | refine sdm (n := 1) ?_ | refine sdm ?_ | refine sdb ?_ | refine Jk ?_ | refine Jl ?_ | refine Jm ?_ | refine Jn ?_ ?_ | refine Jo ?_ ?_ | refine Jp ?_ ?_ | refine rund_nil ?_ | refine Jz ?_ | refine Jw ?_ | refine Jx (id := 13) [0,0,2,6,7,31] 4 ?_ | refine aw_block ?_ | refine Jq ?_ | refine Jr ?_ | refine Js ?_ | refine Jt ?_ | refine Ju ?_ ?_ | refine Jv ?_ ?_ | refine Jy ?_ | refine aw_exit ?_ | refine aw_ret ?_ | refine pp_ret ?_ | refine pp_normal ?_
    all_goals first | exact Exists.intro ⟨i + 1, Li ++ [v1], a6, e6, d, 0⟩ ⟨fitsD [5, 1, 2, 3], ⟨hi, hn, by rw [List.length_append, g3]; rfl, l6⟩, by dsimp only; omega⟩ | (exfalso; omega)
  · obtain rfl : i = 8 := by omega
    rw [g2] at h5
    simp only [Prod.mk.injEq] at h5
    obtain ⟨rfl, rfl, rfl⟩ := h5
    have hbu := bytes_u8 Li (fun z hz => by have := cdR_rng g2 z hz; omega)
    have CC := ac_closeR ei c ai d hc g4 (by omega)
    clear hc
    repeat' first | intro h1 | intro h1 | refine st (h := ok_bytes_str (l := Li.map b8) rfl rfl (by simp; omega) ((take_full (by simp; omega)).trans hbu)) ?_ | refine st ?_ | refine stRW [2] CC ?_ | refine sdRW [2] CC ?_ | refine stm ?_ | refine Ja ?_ | refine Jb ?_ | refine Jc ?_ | refine Jd ?_ | refine Je ?_ | refine Jf ?_ | refine Jg ?_ | refine Jh ?_ ?_ | refine Ji ?_ ?_ | refine Jj ?_ ?_ | refine run_nil ?_ | refine sd ?_ | refine sdl ?_ | refine sdm (n := 1) ?_ | refine sdm ?_ | refine sdb ?_ | refine Jk ?_ | refine Jl ?_ | refine Jm ?_ | refine Jn ?_ ?_ | refine Jo ?_ ?_ | refine Jp ?_ ?_ | refine rund_nil ?_ | refine Jz ?_ | refine Jw ?_ | refine Jx (id := 13) [0,0,2,6,7,31] 4 ?_ | refine aw_block ?_ | refine Jq ?_ | refine Jr ?_ | refine Js ?_ | refine Jt ?_ | refine Ju ?_ ?_ | refine Jv ?_ ?_ | refine Jy ?_ | refine aw_exit ?_ | refine aw_ret ?_ | refine pp_ret ?_ | refine pp_normal ?_
    all_goals first
      | rfl
      | (exfalso; omega)
      | (simp [retOf]; done)
      | (exfalso; simp_all; done)
      | (exfalso; simp only [Bool.not_eq_true', Bool.not_eq_false', decide_eq_true_eq, decide_eq_false_iff_not, Bool.not_false, Bool.not_true] at *; omega)
end Go.Proofs.YtdbcbclapipgdaaGreatDoor
