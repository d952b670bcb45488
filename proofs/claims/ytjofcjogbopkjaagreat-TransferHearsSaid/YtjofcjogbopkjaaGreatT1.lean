/- Image: Make. Image: Make of the reference. -/
import Derived.Test.YtjofcjogbopkjaaGreatVL
import Derived.Test.YtjofcjogbopkjaaGreatS5
import Derived.Test.YtjofcjogbopkjaaGreatIT
import Derived.Test.YtjofcjogbopkjaaGreatVK
set_option linter.unusedVariables false
set_option linter.unusedSimpArgs false
namespace Go.Proofs.YtjofcjogbopkjaaGreat
open Go Av
set_option maxRecDepth 20000
/-- The error of Make. -/
def mkE (v : Int) (d : ByteArray) (pg pk : Int) : Int := if sizB v pg pk = false then 2 else if d.size = 0 then 14 else if 65536 < d.size ∨ 64 < ((d.size : Int) + pg - 1) / pg then 8 else 0
/-- How many pages there are. -/
def mkN (d : ByteArray) (pg : Int) : Nat := (((d.size : Int) + pg - 1) / pg).toNat
/-- The digests of the first pages. -/
def mkL (v : Int) (d : ByteArray) (pg : Int) (N : Nat) : List ByteArray := (List.range N).map fun i : Nat => dgS v i (pgS d pg i)
theorem mkL_len (v : Int) (d : ByteArray) (pg : Int) (N : Nat) : (mkL v d pg N).length = N := by simp [mkL]
theorem mkL_succ (v : Int) (d : ByteArray) (pg : Int) (N : Nat) : mkL v d pg (N + 1) = mkL v d pg N ++ [dgS v N (pgS d pg N)] := by simp [mkL, List.range_succ]
theorem mkL_fin (v : Int) (d : ByteArray) (pg : Int) (N : Nat) : (List.finRange N).map (fun x : Fin N => dgS v x.val (pgS d pg x.val)) = mkL v d pg N := by
  apply List.ext_getElem
  · simp [mkL]
  · intro i h1 h2
    simp [mkL]
theorem mkN_lt {d : ByteArray} {pg : Int} (h : 1 ≤ pg) (k : Nat) : k < mkN d pg ↔ (k : Int) * pg < d.size := by
  have h1 := parts_lt (sz := d.size) (i := k) h
  have h2 : 0 ≤ ((d.size : Int) + pg - 1) / pg := Int.ediv_nonneg (by omega) (by omega)
  unfold mkN
  rw [← h1]
  omega
theorem empty_size {d : ByteArray} : d.size = 0 ↔ d = ⟨#[]⟩ := by
  constructor
  · intro h
    apply ByteArray.ext
    exact Array.eq_empty_of_size_eq_zero h
  · rintro rfl; rfl
theorem noMap_of {m : Mem} (h : (m.all fun b => match b with | some B => !Nat.beq B.z mapZ | none => true) = true) : NoMap m := fun id B hB => by
  have := List.all_eq_true.1 h (some B) (List.mem_of_getElem? (live_some.1 hB))
  exact notMap (by simpa using this)
theorem ac_pages (d : ByteArray) (pg : Int) : ACalls Tryz.prog 50 [.string d, .int .i64 pg] [] (.func (.func 74) #[] #[.pointer (some ⟨1, 0, none⟩), .pointer (some ⟨0, 0, none⟩)]) [some ⟨[.string d], true, 1⟩, some ⟨[.int .i64 pg], true, 1⟩] := by
  refine acalls_of_aw Tryz.func50 rfl rfl ?_
  repeat' first | refine st ?_ | refine st (h := ok_makeFunc (by ((repeat (apply ArgsR.cons; rfl)); exact ArgsR.nil)) (by ((repeat (apply ArgsR.cons; rfl)); exact ArgsR.nil))) ?_ | refine stm ?_ | refine run_nil ?_ | refine Jz ?_ | refine Jw ?_ | refine aw_ret ?_
  all_goals exact pm_ret _ (renumD [0, 1]) rfl
set_option maxHeartbeats 8000000 in
theorem ac_make (v : Int) (d : ByteArray) (pg pk : Int) (hd : d.size ≤ 1000000) (e : Int) (he : mkE v d pg pk = e) (N : Nat) (hN : mkN d pg = N) : ACalls Tryz.prog 22 [.int .i64 v, .string d, .int .i64 pg, .int .i64 pk] [] (.tuple #[if e ≠ 0 then .agg #[.int .i64 0, .int .i64 0, .int .i64 0, .int .i64 0, .slice (some ⟨0, 0, none⟩) 0 0] else .agg #[.int .i64 v, .int .i64 (d.size : Int), .int .i64 pg, .int .i64 pk, .slice (some ⟨0, 0, none⟩) N N], .int .i64 e]) [some ⟨List.map Value.string (if e ≠ 0 then [] else mkL v d pg N), true, 1⟩] := by
  obtain ⟨y, hy⟩ : ∃ y, sizB v pg pk = y := ⟨_, rfl⟩
  have H1 := ac_sizes v pg pk
  unfold mkE at he
  rw [hy] at H1 he
  cases y
  · rw [if_pos rfl] at he
    subst he
    rw [if_pos (by decide), if_pos (by decide)]
    refine acalls_of_aw Tryz.func22 rfl rfl ?_
    refine aw_ghost 1 rfl ?_
    repeat' first | refine st ?_ | refine st_call (H1) ?_ | refine stm ?_ | refine run_nil ?_ | refine Jz ?_ | refine Jw ?_ | refine aw_block ?_ | refine Jq ?_ | refine aw_ret ?_
    all_goals first | (refine pmw_ret _ (renumA [0]) ?_; exact Wk.tupleL (.cons (Wk.aggL (.cons (.refl _) (.cons (.refl _) (.cons (.refl _) (.cons (.refl _) (.cons .nil .nil)))))) (.cons (.refl _) .nil)))
  · rw [if_neg (by simp)] at he
    have hbd := siz_bd hy
    by_cases h0 : d.size = 0
    · rw [if_pos h0] at he
      subst he
      obtain rfl := empty_size.1 h0
      rw [if_pos (by decide), if_pos (by decide)]
      refine acalls_of_aw Tryz.func22 rfl rfl ?_
      refine aw_ghost 1 rfl ?_
      repeat' first | refine st (h := ok_str_eqlT rfl rfl) ?_ | refine st ?_ | refine st_call (H1) ?_ | refine stm ?_ | refine run_nil ?_ | refine Jz ?_ | refine Jw ?_ | refine aw_block ?_ | refine Jq ?_ | refine Jr ?_ | refine aw_ret ?_
      all_goals first | (refine pmw_ret _ (renumA [0]) ?_; exact Wk.tupleL (.cons (Wk.aggL (.cons (.refl _) (.cons (.refl _) (.cons (.refl _) (.cons (.refl _) (.cons .nil .nil)))))) (.cons (.refl _) .nil)))
    · rw [if_neg h0] at he
      have hne : d ≠ ⟨#[]⟩ := fun h => h0 (empty_size.2 h)
      obtain ⟨c, hc⟩ : ∃ c, ((d.size : Int) + pg - 1) / pg = c := ⟨_, rfl⟩
      have H2 := ac_count d.size pg c (by omega) (by omega) hc
      rw [hc] at he
      by_cases h3 : 65536 < d.size ∨ 64 < c
      · rw [if_pos h3] at he
        subst he
        rw [if_pos (by decide), if_pos (by decide)]
        refine acalls_of_aw Tryz.func22 rfl rfl ?_
        refine aw_ghost 1 rfl ?_
        repeat' first | intro h1 | refine st ?_ | refine st_call (H1) ?_ | refine st_call (H2) ?_ | refine stm ?_ | refine Ja ?_ | refine Jb ?_ | refine Ji ?_ ?_ | refine run_nil ?_ | refine Jz ?_ | refine Jw ?_ | refine aw_block ?_ | refine Jq ?_ | refine Jr ?_ | refine Js ?_ | refine Jt ?_ | refine aw_ret ?_
        all_goals first | (refine pmw_ret _ (renumA [0]) ?_; exact Wk.tupleL (.cons (Wk.aggL (.cons (.refl _) (.cons (.refl _) (.cons (.refl _) (.cons (.refl _) (.cons .nil .nil)))))) (.cons (.refl _) .nil)))
      · rw [if_neg h3] at he
        subst he
        have hlt := fun k => mkN_lt (d := d) (pg := pg) (by omega) k
        have hNc : (N : Int) = c := by
          have h2 : 0 ≤ ((d.size : Int) + pg - 1) / pg := Int.ediv_nonneg (by omega) (by omega)
          rw [← hN, mkN, ← hc]; omega
        rw [hN] at hlt
        have hlen := mkL_len v d pg N
        rw [if_neg (by decide), if_neg (by decide)]
        refine acalls_of_aw Tryz.func22 rfl rfl ?_
        refine aw_ghost 1 rfl ?_
        repeat' first | refine st (h := ok_str_eql rfl rfl) ?_ | refine st ?_ | refine st_call (H1) ?_ | refine st_call (H2) ?_ | refine stMW [] (ac_pages d pg) ?_ | refine stm ?_ | refine Ja ?_ | refine Jf ?_ | refine run_nil ?_ | refine Jz ?_ | refine Jw ?_ | refine aw_block ?_ | refine Jr ?_ | refine Jt ?_ | refine Jy ?_
        all_goals try (exfalso; first | omega | (simp_all; done))
        refine aw_fits (σh := [(4, .pointer (some ⟨0, 0, none⟩)), (8, .pointer (some ⟨1, 0, none⟩)), (10, .pointer (some ⟨2, 0, none⟩)), (44, .func (.func 74) #[] #[.pointer (some ⟨4, 0, none⟩), .pointer (some ⟨3, 0, none⟩)])]) (mh := (fun pre : List (Fin N) => [some ⟨[.int .i64 v], true, 1⟩, some ⟨[.int .i64 0, .int .i64 0, .int .i64 0, .int .i64 0, .slice none 0 0], true, 1⟩, some ⟨[.int .i64 v, .int .i64 (d.size : Int), .int .i64 pg, .int .i64 pk, .slice (some ⟨5, 0, none⟩) pre.length pre.length], true, 1⟩, some ⟨[.string d], true, 1⟩, some ⟨[.int .i64 pg], true, 1⟩, some ⟨List.map Value.string (pre.map (fun x : Fin N => dgS v x.val (pgS d pg x.val))), true, 1⟩]) []) (fitsD [1, 2, 3, 4, 5, 0]) ?_
        refine aw_rangeFunc (gf := 74) (cs := [.int .i64 pg, .string d]) (N := N) (encs := pgEn d pg N) 5 [4, 3] (fun pre : List (Fin N) => [some ⟨[.int .i64 v], true, 1⟩, some ⟨[.int .i64 0, .int .i64 0, .int .i64 0, .int .i64 0, .slice none 0 0], true, 1⟩, some ⟨[.int .i64 v, .int .i64 (d.size : Int), .int .i64 pg, .int .i64 pk, .slice (some ⟨5, 0, none⟩) pre.length pre.length], true, 1⟩, some ⟨[.string d], true, 1⟩, some ⟨[.int .i64 pg], true, 1⟩, some ⟨List.map Value.string (pre.map (fun x : Fin N => dgS v x.val (pgS d pg x.val))), true, 1⟩]) (fun _ => True) (fun x : Fin N => [(4, .pointer (some ⟨0, 0, none⟩)), (10, .pointer (some ⟨2, 0, none⟩)), (11, .int .i64 (x.val : Int)), (12, .string (pgS d pg x.val))]) (fun _ _ => False)
          (it_pages pg d N (by omega) hd hlt (by omega)) rfl trivial (Nat.zero_le _) (by intro c hc; simp at hc; rcases hc with rfl | rfl <;> rfl) rfl (by decide) rfl (fun _ => rfl) rfl rfl (by decide) ?_ ?_ ?_ ?_ ?_ ?_ ?_
        · intro x
          refine ⟨rfl, fun u hu => ?_⟩
          simp [pgEn] at hu
          rcases hu with rfl | rfl <;> rfl
        · intro pre
          refine ⟨by simp, noMap_of rfl, fun i id c h1 h2 => ?_⟩
          match i, h1, h2 with
          | 0, h1, h2 => cases h1; cases h2; exact ⟨_, _, rfl⟩
          | 1, h1, h2 => cases h1; cases h2; exact ⟨_, _, rfl⟩
        · exact fun _ _ h => h.elim
        · intro pre x
          repeat' first | refine st ?_ | refine run_nil ?_ | refine Jz ?_ | refine Jw ?_
          all_goals exact ⟨rfl, fitsD [0, 1, 2, 3, 4, 5]⟩
        · intro pre x _ hpl
          have hxs : (pgS d pg x.val).size ≤ d.size := by
            unfold pgS; rw [ByteArray.size_extract]; omega
          obtain ⟨S, hS⟩ : ∃ S, dgS v x.val (pgS d pg x.val) = S := ⟨_, rfl⟩
          have H3 := ac_isum v x.val (pgS d pg x.val) (by omega) S hS
          have hu : List.map Value.string (List.map (fun x : Fin N => dgS v x.val (pgS d pg x.val)) (pre ++ [x])) = List.map Value.string (List.map (fun x : Fin N => dgS v x.val (pgS d pg x.val)) pre) ++ [.string S] := by rw [← hS]; simp
          repeat' first | refine sdb (n := 1) ?_ (h := by (apply ok_append (cs := List.map Value.string (List.map (fun x : Fin N => dgS v x.val (pgS d pg x.val)) (pre ++ [x]))) (olds := List.map Value.string (List.map (fun x : Fin N => dgS v x.val (pgS d pg x.val)) pre)); rfl; rfl; rfl; rfl; rfl; rfl; (focus first | (apply Src.slc; rfl; exact Ty.eq; rfl; exact Nat.le_of_ble_eq_true rfl; exact TakeR.eq (by ((repeat constructor); first | done | fail)); rfl; rfl; first | done | fail)); (focus simp); (focus (apply take_full; simp)); (focus exact hu.symm); omega; (focus ((repeat constructor); first | done | fail)))) | refine sd_call (H3) ?_ | refine sd ?_ | refine sdl ?_ | refine sdm (n := 1) ?_ | refine sdb ?_ | refine rund_nil ?_ | refine Jx (id := 11) [0,1,0,0,0,28,60,127,255,511] 7 ?_ | refine aw_block ?_
          all_goals first | exact .inl ⟨rfl, by rw [List.length_append]; exact fitsD [0, 1, 2, 3, 4, 7], trivial⟩
        · intro _
          rw [List.length_finRange, mkL_fin]
          repeat' first | refine st ?_ | refine stm ?_ | refine run_nil ?_ | refine Jz ?_ | refine Jw ?_ | refine aw_ret ?_
          all_goals exact pm_ret _ (renumD [5]) rfl
        · exact fun _ _ h => h.elim
end Go.Proofs.YtjofcjogbopkjaaGreat
namespace Go.Proofs.YtjofcjogbopkjaaGreat
open Go Av
set_option maxRecDepth 20000
theorem pgS_in {d : ByteArray} {pg : Int} {k : Nat} (h : 1 ≤ pg ∧ pg ≤ 1000000) (hd : d.size ≤ 1000000) (hk : (k : Int) * pg < d.size) : 0 ≤ (k : Int) * pg ∧ ((k : Int) + 1) * pg = k * pg + pg := ⟨Int.mul_nonneg (by omega) (by omega), by rw [Int.add_mul, Int.one_mul]⟩
end Go.Proofs.YtjofcjogbopkjaaGreat
