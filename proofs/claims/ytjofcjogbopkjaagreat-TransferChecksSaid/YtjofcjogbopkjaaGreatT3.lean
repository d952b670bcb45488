/- Image: Intact. Image: Intact of the reference. -/
import Derived.Test.YtjofcjogbopkjaaGreatVL
import Derived.Test.YtjofcjogbopkjaaGreatT1
import Derived.Test.YtjofcjogbopkjaaGreatS8
set_option linter.unusedVariables false
set_option linter.unusedSimpArgs false
namespace Go.Proofs.YtjofcjogbopkjaaGreat
open Go Av
set_option maxRecDepth 20000
/-- The error of the data of an image. -/
def inE (c v sz pg : Int) (L : List ByteArray) (d : ByteArray) : Int := if c ≠ 0 then 1 else if (d.size : Int) ≠ sz then 11 else if mkL v d pg (mkN d pg) = L then 0 else 20
theorem mkL_at {v pg : Int} {d : ByteArray} {N i : Nat} (hi : i < N) : (mkL v d pg N)[i]? = some (dgS v i (pgS d pg i)) := by
  simp [mkL, hi]
theorem mkL_eq {v pg : Int} {d : ByteArray} {N : Nat} {L : List ByteArray} (hl : L.length = N) (h : ∀ i : Nat, i < N → L[i]? = some (dgS v i (pgS d pg i))) : mkL v d pg N = L :=
  eq_of_allS (by rw [mkL_len, hl]) fun j hj => by
    rw [mkL_len] at hj
    rw [mkL_at hj, h j hj]
theorem pgS_size {d : ByteArray} {pg : Int} {k : Nat} (h : 1 ≤ pg) (hk : (k : Int) * pg < d.size) : ((pgS d pg k).size : Int) = lenM d.size pg k := by
  have h1 : 0 ≤ (k : Int) * pg := Int.mul_nonneg (by omega) (by omega)
  have h2 : ((k : Int) + 1) * pg = k * pg + pg := by rw [Int.add_mul, Int.one_mul]
  unfold pgS lenM
  rw [ByteArray.size_extract, h2]
  omega
set_option maxHeartbeats 8000000 in
theorem ac_intact (v sz pg pk : Int) (L : List ByteArray) (n : Nat) (hn : L.length = n) (hb : n ≤ 9000000000000000000) (d : ByteArray) (hd : d.size ≤ 1000000) (c : Int) (hc : chkM v sz pg pk L = c) (y : Int) (hy : inE c v sz pg L d = y) : ACalls Tryz.prog 52 [.agg #[.int .i64 v, .int .i64 sz, .int .i64 pg, .int .i64 pk, .slice (some ⟨0, 0, none⟩) n n], .string d] [some ⟨List.map Value.string L, false, 1⟩] (.int .i64 y) [none] := by
  have H1 := ac_mcheck v sz pg pk L n hn hb c hc
  unfold inE at hy
  by_cases h1 : c ≠ 0
  · rw [if_pos h1] at hy
    subst hy
    clear hc
    refine acalls_law Tryz.func52 rfl rfl rfl ?_
    repeat' first | refine st ?_ | refine stRW [0] H1 ?_ | refine stm ?_ | refine run_nil ?_ | refine Jz ?_ | refine Jw ?_ | refine aw_block ?_ | refine Js ?_ | refine aw_ret ?_ | refine pp_ret ?_
    all_goals first
      | rfl
      | (exfalso; omega)
      | (exfalso; simp only [Bool.not_eq_true', Bool.not_eq_false', decide_eq_true_eq, decide_eq_false_iff_not, Bool.not_false, Bool.not_true] at *; omega)
      | (exfalso; simp_all; first | done | omega)
  · rw [if_neg h1] at hy
    obtain rfl : c = 0 := Decidable.not_not.1 h1
    obtain ⟨q1, q2, q3, q4, q5⟩ := chk_ok hc
    have q6 := siz_bd q1
    by_cases h2 : (d.size : Int) ≠ sz
    · rw [if_pos h2] at hy
      subst hy
      clear hc
      refine acalls_law Tryz.func52 rfl rfl rfl ?_
      repeat' first | refine st ?_ | refine stRW [0] H1 ?_ | refine stm ?_ | refine run_nil ?_ | refine Jz ?_ | refine Jw ?_ | refine aw_block ?_ | refine Jr ?_ | refine Js ?_ | refine aw_ret ?_ | refine pp_ret ?_
      all_goals first
        | rfl
        | (exfalso; omega)
        | (exfalso; simp only [Bool.not_eq_true', Bool.not_eq_false', decide_eq_true_eq, decide_eq_false_iff_not, Bool.not_false, Bool.not_true] at *; omega)
        | (exfalso; simp_all; first | done | omega)
    · rw [if_neg h2] at hy
      obtain rfl : sz = d.size := by omega
      obtain ⟨N, hN⟩ : ∃ N, mkN d pg = N := ⟨_, rfl⟩
      rw [hN] at hy
      have hlt := fun k => mkN_lt (d := d) (pg := pg) (by omega) k
      rw [hN] at hlt
      have hnN : n = N := by rw [← hN, mkN, ← q4, hn]; omega
      by_cases heq : mkL v d pg N = L
      · rw [if_pos heq] at hy
        subst hy
        clear hc
        refine acalls_law Tryz.func52 rfl rfl rfl ?_
        repeat' first | refine st ?_ | refine stRW [0] H1 ?_ | refine stMW [] (ac_pages d pg) ?_ | refine stm ?_ | refine run_nil ?_ | refine Jz ?_ | refine Jw ?_ | refine aw_block ?_ | refine Jr ?_ | refine Jt ?_ | refine Jy ?_
        all_goals try (exfalso; first | omega | (simp_all; done))
        refine aw_fits (σh := [(2, .pointer (some ⟨1, 0, none⟩)), (4, .pointer (some ⟨2, 0, none⟩)), (20, .func (.func 74) #[] #[.pointer (some ⟨4, 0, none⟩), .pointer (some ⟨3, 0, none⟩)])]) (mh := (fun _ : List (Fin N) => [some ⟨List.map Value.string L, false, 1⟩, some ⟨[.int .i64 v, .int .i64 (d.size : Int), .int .i64 pg, .int .i64 pk, .slice (some ⟨0, 0, none⟩) n n], true, 1⟩, some ⟨[.int .i64 0], true, 1⟩, some ⟨[.string d], true, 1⟩, some ⟨[.int .i64 pg], true, 1⟩]) []) (fitsD [0, 1, 2, 3, 4]) ?_
        refine aw_rangeFunc (gf := 74) (cs := [.int .i64 pg, .string d]) (N := N) (encs := pgEn d pg N) 5 [4, 3] (fun _ : List (Fin N) => [some ⟨List.map Value.string L, false, 1⟩, some ⟨[.int .i64 v, .int .i64 (d.size : Int), .int .i64 pg, .int .i64 pk, .slice (some ⟨0, 0, none⟩) n n], true, 1⟩, some ⟨[.int .i64 0], true, 1⟩, some ⟨[.string d], true, 1⟩, some ⟨[.int .i64 pg], true, 1⟩]) (fun _ => True) (fun x : Fin N => [(2, .pointer (some ⟨1, 0, none⟩)), (4, .pointer (some ⟨2, 0, none⟩)), (5, .int .i64 (x.val : Int)), (6, .string (pgS d pg x.val))]) (fun _ _ => False)
          (it_pages pg d N (by omega) hd hlt (by omega)) rfl trivial (Nat.le_of_ble_eq_true rfl) (by intro c hc; simp at hc; rcases hc with rfl | rfl <;> rfl) rfl (by decide) rfl (fun _ => rfl) rfl rfl (by decide) ?_ ?_ ?_ ?_ ?_ ?_ ?_
        · intro x
          refine ⟨rfl, fun u hu => ?_⟩
          simp [pgEn] at hu
          rcases hu with rfl | rfl <;> rfl
        · intro pre
          refine ⟨by simp, noMap_of rfl, fun i id c h1 h2 => ?_⟩
          match i, h1, h2 with
          | 0, h1, h2 => cases h1; cases h2; exact ⟨_, _, rfl⟩
          | 1, h1, h2 => cases h1; cases h2; exact ⟨_, _, rfl⟩
        · exact fun _ _ h => h.elim
        · intro pre x
          repeat' first | refine st ?_ | refine run_nil ?_ | refine Jz ?_ | refine Jw ?_
          all_goals exact ⟨rfl, fitsD [0, 1, 2, 3, 4]⟩
        · intro pre x hR hpl
          obtain ⟨i, hi⟩ := x
          dsimp only
          have hxs : (pgS d pg i).size ≤ d.size := by
            unfold pgS; rw [ByteArray.size_extract]; omega
          obtain ⟨S, hS⟩ : ∃ S, dgS v i (pgS d pg i) = S := ⟨_, rfl⟩
          have H3 := ac_isum v i (pgS d pg i) (by omega) S hS
          obtain ⟨q, hq⟩ : ∃ q, L[i]? = some q := ⟨_, List.getElem?_eq_getElem (by omega)⟩
          obtain rfl : S = q := by
            rw [← heq, mkL_at hi, hS] at hq
            exact Option.some.inj hq
          repeat' first | refine sdl (h := ok_load_mapE (f := Value.string) i hq rfl rfl rfl (by omega)) ?_ | refine sd (h := ok_str_neqF rfl rfl) ?_ | refine sd_call (H3) ?_ | refine sd ?_ | refine sdl ?_ | refine rund_nil ?_ | refine Jz ?_ | refine Jx (id := 8) [0,1,0,0,15,0,32,0,224,480,1023] 11 ?_ | refine aw_block ?_ | refine Jr ?_ | refine Jy ?_
          all_goals first | exact .inl ⟨rfl, fitsD [0, 1, 2, 3, 4], trivial⟩
        · intro hR
          repeat' first | refine stm ?_ | refine run_nil ?_ | refine Jz ?_ | refine Jw ?_ | refine aw_ret ?_ | refine pp_ret ?_
          all_goals first
            | rfl
            | (exfalso; omega)
            | (exfalso; simp only [Bool.not_eq_true', Bool.not_eq_false', decide_eq_true_eq, decide_eq_false_iff_not, Bool.not_false, Bool.not_true] at *; omega)
            | (exfalso; simp_all; first | done | omega)
        · exact fun _ _ h => h.elim
      · rw [if_neg heq] at hy
        subst hy
        clear hc
        refine acalls_law Tryz.func52 rfl rfl rfl ?_
        repeat' first | refine st ?_ | refine stRW [0] H1 ?_ | refine stMW [] (ac_pages d pg) ?_ | refine stm ?_ | refine run_nil ?_ | refine Jz ?_ | refine Jw ?_ | refine aw_block ?_ | refine Jr ?_ | refine Jt ?_ | refine Jy ?_
        all_goals try (exfalso; first | omega | (simp_all; done))
        refine aw_fits (σh := [(2, .pointer (some ⟨1, 0, none⟩)), (4, .pointer (some ⟨2, 0, none⟩)), (20, .func (.func 74) #[] #[.pointer (some ⟨4, 0, none⟩), .pointer (some ⟨3, 0, none⟩)])]) (mh := (fun _ : List (Fin N) => [some ⟨List.map Value.string L, false, 1⟩, some ⟨[.int .i64 v, .int .i64 (d.size : Int), .int .i64 pg, .int .i64 pk, .slice (some ⟨0, 0, none⟩) n n], true, 1⟩, some ⟨[.int .i64 0], true, 1⟩, some ⟨[.string d], true, 1⟩, some ⟨[.int .i64 pg], true, 1⟩]) []) (fitsD [0, 1, 2, 3, 4]) ?_
        refine aw_rangeFunc (gf := 74) (cs := [.int .i64 pg, .string d]) (N := N) (encs := pgEn d pg N) 5 [4, 3] (fun _ : List (Fin N) => [some ⟨List.map Value.string L, false, 1⟩, some ⟨[.int .i64 v, .int .i64 (d.size : Int), .int .i64 pg, .int .i64 pk, .slice (some ⟨0, 0, none⟩) n n], true, 1⟩, some ⟨[.int .i64 0], true, 1⟩, some ⟨[.string d], true, 1⟩, some ⟨[.int .i64 pg], true, 1⟩]) (fun pre => ∀ x ∈ pre, L[x.val]? = some (dgS v x.val (pgS d pg x.val))) (fun x : Fin N => [(2, .pointer (some ⟨1, 0, none⟩)), (4, .pointer (some ⟨2, 0, none⟩)), (5, .int .i64 (x.val : Int)), (6, .string (pgS d pg x.val))]) (fun e m => e = .ret ∧ m = [some ⟨List.map Value.string L, false, 1⟩, some ⟨[.int .i64 v, .int .i64 (d.size : Int), .int .i64 pg, .int .i64 pk, .slice (some ⟨0, 0, none⟩) n n], true, 1⟩, some ⟨[.int .i64 20], true, 1⟩, some ⟨[.string d], true, 1⟩, some ⟨[.int .i64 pg], true, 1⟩])
          (it_pages pg d N (by omega) hd hlt (by omega)) rfl (fun x h => by simp at h) (Nat.le_of_ble_eq_true rfl) (by intro c hc; simp at hc; rcases hc with rfl | rfl <;> rfl) rfl (by decide) rfl (fun _ => rfl) rfl rfl (by decide) ?_ ?_ ?_ ?_ ?_ ?_ ?_
        · intro x
          refine ⟨rfl, fun u hu => ?_⟩
          simp [pgEn] at hu
          rcases hu with rfl | rfl <;> rfl
        · intro pre
          refine ⟨by simp, noMap_of rfl, fun i id c h1 h2 => ?_⟩
          match i, h1, h2 with
          | 0, h1, h2 => cases h1; cases h2; exact ⟨_, _, rfl⟩
          | 1, h1, h2 => cases h1; cases h2; exact ⟨_, _, rfl⟩
        · rintro e m ⟨_, rfl⟩; exact noMap_of rfl
        · intro pre x
          repeat' first | refine st ?_ | refine run_nil ?_ | refine Jz ?_ | refine Jw ?_
          all_goals exact ⟨rfl, fitsD [0, 1, 2, 3, 4]⟩
        · intro pre x hR hpl
          obtain ⟨i, hi⟩ := x
          dsimp only
          have hxs : (pgS d pg i).size ≤ d.size := by
            unfold pgS; rw [ByteArray.size_extract]; omega
          obtain ⟨S, hS⟩ : ∃ S, dgS v i (pgS d pg i) = S := ⟨_, rfl⟩
          have H3 := ac_isum v i (pgS d pg i) (by omega) S hS
          obtain ⟨q, hq⟩ : ∃ q, L[i]? = some q := ⟨_, List.getElem?_eq_getElem (by omega)⟩
          by_cases hSq : S = q
          · subst hSq
            have hR' : ∀ x ∈ pre ++ [(⟨i, hi⟩ : Fin N)], L[x.val]? = some (dgS v x.val (pgS d pg x.val)) := fun x hx => by
              rcases List.mem_append.1 hx with hx | hx
              · exact hR x hx
              · rw [List.mem_singleton] at hx
                subst hx
                dsimp only
                rw [hq, hS]
            repeat' first | refine sdl (h := ok_load_mapE (f := Value.string) i hq rfl rfl rfl (by omega)) ?_ | refine sd (h := ok_str_neqF rfl rfl) ?_ | refine sd_call (H3) ?_ | refine sd ?_ | refine sdl ?_ | refine rund_nil ?_ | refine Jz ?_ | refine Jx (id := 8) [0,1,0,0,15,0,32,0,224,480,1023] 11 ?_ | refine aw_block ?_ | refine Jr ?_ | refine Jy ?_
            all_goals first | exact .inl ⟨rfl, fitsD [0, 1, 2, 3, 4], hR'⟩
          · skip
            repeat' first | refine sdl (h := ok_load_mapE (f := Value.string) i hq rfl rfl rfl (by omega)) ?_ | refine sd (h := ok_str_neq rfl rfl) ?_ | refine sd_call (H3) ?_ | refine stm ?_ | refine run_nil ?_ | refine sd ?_ | refine sdl ?_ | refine rund_nil ?_ | refine Jz ?_ | refine Jw ?_ | refine Jx (id := 8) [0,1,0,0,15,0,32,0,224,480,1023] 11 ?_ | refine aw_block ?_ | refine Js ?_ | refine aw_ret ?_
            all_goals first | exact .inr ⟨.inl rfl, rfl, rfl⟩
        · intro hR
          exact absurd (mkL_eq (by omega) fun i hi => hR ⟨i, hi⟩ (List.mem_finRange _)) heq
        · rintro e m ⟨rfl, rfl⟩
          refine pp_ret ?_
          rfl
end Go.Proofs.YtjofcjogbopkjaaGreat
namespace Go.Proofs.YtjofcjogbopkjaaGreat
open Go Av
set_option maxRecDepth 20000
end Go.Proofs.YtjofcjogbopkjaaGreat
