/- Transfer: what the rows hand in. Transfer: the stores of images, equal stores. -/
import Derived.Test.YtjofcjogbopkjaaGreatY1
import Derived.Test.YtjofcjogbopkjaaGreatVL
import Derived.Test.YtjofcjogbopkjaaGreatK3
import Derived.Test.YtjofcjogbopkjaaGreatT3
import Derived.Test.YtjofcjogbopkjaaGreatU5
set_option linter.unusedVariables false
set_option linter.unusedSimpArgs false
namespace Go.Proofs.YtjofcjogbopkjaaGreat
open Go Av
set_option maxRecDepth 20000
/-- Updates as they are handed in. -/
def toU (a : Int × Int × ByteArray × Int × Int × Int × ByteArray × Unit) : Upd := ⟨a.1, a.2.1, a.2.2.1, a.2.2.2.1, a.2.2.2.2.1, a.2.2.2.2.2.1.toNat, a.2.2.2.2.2.2.1⟩
theorem toU_rows : ∀ (l : List (Int × Int × ByteArray × Int × Int × Int × ByteArray × Unit)), (∀ a ∈ l, 0 ≤ a.2.2.2.2.2.1) → (l.map toU).flatMap updC = l.flatMap fun a => [Value.int .i64 a.1, .int .i64 a.2.1, .string a.2.2.1, .int .i64 a.2.2.2.1, .int .i64 a.2.2.2.2.1, .int .u64 a.2.2.2.2.2.1, .string a.2.2.2.2.2.2.1]
  | [], _ => rfl
  | a :: l, h => by
    rw [List.map_cons, List.flatMap_cons, List.flatMap_cons, toU_rows l fun b hb => h b (List.mem_cons_of_mem _ hb)]
    have h0 := h a List.mem_cons_self
    have e : ((a.2.2.2.2.2.1.toNat : Nat) : Int) = a.2.2.2.2.2.1 := Int.toNat_of_nonneg h0
    show [Value.int .i64 a.1, .int .i64 a.2.1, .string a.2.2.1, .int .i64 a.2.2.2.1, .int .i64 a.2.2.2.2.1, .int .u64 ((a.2.2.2.2.2.1.toNat : Nat) : Int), .string a.2.2.2.2.2.2.1] ++ _ = _
    rw [e]
theorem flat_strs (l : List ByteArray) : (l.flatMap fun n => [Value.string n]) = List.map Value.string l := by
  induction l with
  | nil => rfl
  | cons a l ih => rw [List.flatMap_cons, ih]; rfl
end Go.Proofs.YtjofcjogbopkjaaGreat
namespace Go.Proofs.YtjofcjogbopkjaaGreat
open Go Av
set_option maxRecDepth 20000
theorem dg_size (n : Int) (X : List UInt8) : (dig n X).size = 32 := by
  show (outB _ 8).toArray.size = 32
  simp [outB]
/-- The complete store of an image is right. -/
theorem full_ok {v sz pg pk : Int} {L : List ByteArray} {d : ByteArray} (hc : chkM v sz pg pk L = 0) (hy : inE 0 v sz pg L d = 0) : chS ⟨v, dig 0 (idB (encS v sz pg pk L)).data.toList, true, v, sz, pg, pk, L, d, 0, []⟩ = true ∧ (d.size : Int) = sz ∧ (∀ i : Nat, i < L.length → vfE v sz pg 0 i L (pgS d pg i) = 0) := by
  obtain ⟨q1, q2, q3, q4, q5⟩ := chk_ok hc
  have hbd := siz_bd q1
  have hsz : (d.size : Int) = sz := by
    unfold inE at hy
    rw [if_neg (by decide)] at hy
    by_cases h : (d.size : Int) = sz
    · exact h
    · rw [if_pos h] at hy
      exact absurd hy (by decide)
  have hmk : mkL v d pg (mkN d pg) = L := by
    unfold inE at hy
    rw [if_neg (by decide), if_neg (by omega)] at hy
    by_cases h : mkL v d pg (mkN d pg) = L
    · exact h
    · rw [if_neg h] at hy
      exact absurd hy (by decide)
  have hN : mkN d pg = L.length := by
    unfold mkN
    rw [hsz, ← q4]
    rfl
  have hpg : ∀ i : Nat, i < L.length → vfE v sz pg 0 i L (pgS d pg i) = 0 := fun i hi => by
    have h1 : (i : Int) * pg < d.size := (mkN_lt (by omega) i).1 (by rw [hN]; exact hi)
    have h2 := pgS_size (d := d) (pg := pg) (k := i) (by omega) h1
    have h3 : L[i]? = some (dgS v i (pgS d pg i)) := by
      rw [← hmk]
      exact mkL_at (by rw [hN]; exact hi)
    unfold vfE
    rw [if_neg (by decide), if_neg (by rw [h2, hsz]; exact fun h => h rfl), Int.toNat_natCast, h3]
    exact if_neg fun h => h rfl
  refine ⟨?_, hsz, hpg⟩
  have hv : 1 ≤ v ∧ v ≤ 65535 := hbd.1
  have hdb : dnB sz pg d.size = true := decide_eq_true (.inl hsz)
  have hdn : dnN sz pg L.length d.size = L.length := if_pos hsz
  refine ch_known (s := ⟨v, _, true, v, sz, pg, pk, L, d, 0, []⟩) ⟨hv.1, hv.2, dg_size _ _⟩ rfl ?_
  unfold knB
  dsimp only
  rw [hdb, hdn, Int.toNat_natCast, decide_eq_true ⟨hc, rfl, rfl⟩, if_pos rfl, pgsB_of hpg]
  rfl
set_option maxHeartbeats 4000000 in
theorem ac_FullX (v sz pg pk : Int) (L : List ByteArray) (n : Nat) (hn : L.length = n) (hb : n ≤ 1000000) (d : ByteArray) (hd : d.size ≤ 1000000) (c : Int) (hc : chkM v sz pg pk L = c) (y : Int) (hy : inE c v sz pg L d = y) (hy0 : y ≠ 0) : ACalls Tryz.prog 23 [.agg #[.int .i64 v, .int .i64 sz, .int .i64 pg, .int .i64 pk, .slice (some ⟨0, 0, none⟩) n n], .string d] [some ⟨List.map Value.string L, false, 1⟩] (.tuple #[.agg #[.int .i64 0, .string ⟨#[]⟩, .bool false, .int .i64 0, .int .i64 0, .int .i64 0, .int .i64 0, .slice none 0 0, .string ⟨#[]⟩, .int .u64 0, .slice none 0 0], .int .i64 y]) [none] := by
  have H1 := ac_intact v sz pg pk L n hn (by omega) d hd c hc y hy
  clear hc hy
  refine acalls_law Tryz.func23 rfl rfl rfl ?_
  repeat' first | refine st ?_ | refine stRW [0] H1 ?_ | refine stm ?_ | refine run_nil ?_ | refine Jz ?_ | refine Jw ?_ | refine Js ?_ | refine aw_ret ?_ | refine pp_ret ?_
  all_goals first
    | rfl
    | (exfalso; omega)
    | (simp [retOf]; done)
    | (exfalso; simp_all; done)
set_option maxHeartbeats 8000000 in
/-- Two stores that are equal. -/
theorem ac_sameS (s : Sto) (n p : Nat) (hn : s.L.length = n) (hp : s.P.length = p) (hb : n ≤ 1000000 ∧ p ≤ 1000000) : ACalls Tryz.prog 11 [.agg #[.int .i64 s.ver, .string s.id, .bool s.kn, .int .i64 s.mv, .int .i64 s.ms, .int .i64 s.mg, .int .i64 s.mq, .slice (some ⟨0, 0, none⟩) n n, .string s.data, .int .u64 s.bits, .slice (some ⟨1, 0, none⟩) p p], .agg #[.int .i64 s.ver, .string s.id, .bool s.kn, .int .i64 s.mv, .int .i64 s.ms, .int .i64 s.mg, .int .i64 s.mq, .slice (some ⟨2, 0, none⟩) n n, .string s.data, .int .u64 s.bits, .slice (some ⟨3, 0, none⟩) p p]] [some ⟨List.map Value.string s.L, false, 1⟩, some ⟨List.map Value.string s.P, false, 1⟩, some ⟨List.map Value.string s.L, false, 1⟩, some ⟨List.map Value.string s.P, false, 1⟩] (.bool true) [none, none, none, none] := by
  have H := ac_same s.mv s.ms s.mg s.mq s.mv s.ms s.mg s.mq s.L s.L n n hn hn (by omega) (by omega) true (decide_eq_true ⟨rfl, rfl, rfl, rfl, rfl⟩)
  obtain ⟨ver, id, kn, mv, ms, mg, mq, L, data, bits, P⟩ := s
  dsimp only at *
  refine acalls_law Tryz.func11 rfl rfl rfl ?_
  repeat' first | intro h1 | intro h1 | refine st (h := ok_str_neqF rfl rfl) ?_ | refine st ?_ | refine stRW [0, 2] H ?_ | refine stm ?_ | refine Ja ?_ | refine Jb ?_ | refine Jf ?_ | refine Ji ?_ ?_ | refine run_nil ?_ | refine Jz ?_ | refine Jw ?_ | refine aw_block ?_ | refine Jq ?_ | refine Jt ?_ | refine Jy ?_ | refine aw_ret ?_ | refine pp_ret ?_
  all_goals try (exfalso; omega)
  all_goals try (exact absurd rfl h1)
  refine aw_loopg
    (S := fun y : Wi => [(2, .pointer (some ⟨4, 0, none⟩)), (3, .pointer (some ⟨5, 0, none⟩)), (5, .int .i64 y.i)])
    (B := fun _ : Wi => [some ⟨List.map Value.string L, false, 1⟩, some ⟨List.map Value.string P, false, 1⟩, some ⟨List.map Value.string L, false, 1⟩, some ⟨List.map Value.string P, false, 1⟩, some ⟨[.int .i64 ver, .string id, .bool kn, .int .i64 mv, .int .i64 ms, .int .i64 mg, .int .i64 mq, .slice (some ⟨0, 0, none⟩) n n, .string data, .int .u64 bits, .slice (some ⟨1, 0, none⟩) p p], true, 1⟩, some ⟨[.int .i64 ver, .string id, .bool kn, .int .i64 mv, .int .i64 ms, .int .i64 mg, .int .i64 mq, .slice (some ⟨2, 0, none⟩) n n, .string data, .int .u64 bits, .slice (some ⟨3, 0, none⟩) p p], true, 1⟩])
    (R := fun y : Wi => y.i ≤ p)
    (μ := fun y : Wi => p - y.i) ⟨0⟩ (fitsD [0, 1, 2, 3, 4, 5]) (Nat.zero_le _) ?_
  clear H
  rintro ⟨i⟩ g1
  dsimp only at *
  by_cases hi : i < p
  · obtain ⟨q, hq⟩ : ∃ q, P[i]? = some q := ⟨_, List.getElem?_eq_getElem (by omega)⟩
    repeat' first | refine sd (h := ok_str_neqF rfl rfl) ?_ | refine sdl (h := ok_load_mapE (f := Value.string) i hq rfl rfl rfl (by omega)) ?_ | refine st ?_ | refine run_nil ?_ | refine sd ?_ | refine sdl ?_ | refine rund_nil ?_ | refine Jz ?_ | refine Jw ?_ | refine Jx (id := 6) [0,1,0,7,15,0,32,0,224,480,1023] 11 ?_ | refine aw_block ?_ | refine Jr ?_ | refine Js ?_ | refine Jy ?_
    all_goals first | exact Exists.intro ⟨i + 1⟩ ⟨fitsD [0, 1, 2, 3, 4, 5], hi, by dsimp only; omega⟩
  · obtain rfl : i = p := by omega
    repeat' first | refine st ?_ | refine run_nil ?_ | refine Jz ?_ | refine Jw ?_ | refine Jt ?_ | refine aw_exit ?_ | refine aw_ret ?_ | refine pp_ret ?_
    all_goals first
      | rfl
      | (exfalso; omega)
      | (simp [retOf]; done)
      | (exfalso; simp_all; done)
end Go.Proofs.YtjofcjogbopkjaaGreat
