/- Geometry: crossed, at. Geometry: between. Geometry: Between, At. Fadings. -/
import Derived.Test.YtdenooeaiicheaaGreatVL
import Derived.Test.YtdenooeaiicheaaGreatT2
import Derived.Test.YtdenooeaiicheaaGreatA4
set_option linter.unusedVariables false
set_option linter.unusedSimpArgs false
namespace Go.Proofs.YtdenooeaiicheaaGreat
open Go Av
set_option maxRecDepth 20000
theorem noMap_of {m : Mem} (h : (m.all fun b => match b with | some B => !Nat.beq B.z mapZ | none => true) = true) : NoMap m := fun id B hB => by
  have := List.all_eq_true.1 h (some B) (List.mem_of_getElem? (live_some.1 hB))
  exact notMap (by simpa using this)
set_option maxHeartbeats 4000000 in
theorem ac_crossed (n p w : Nat) (ex no th ax ay bx by' : Int) : ACalls Tryz.prog 136 [.agg #[.slice (some ⟨0, 0, none⟩) n n, .slice (some ⟨1, 0, none⟩) p p, .slice (some ⟨2, 0, none⟩) w w, .int .i64 ex, .int .i64 no, .int .i64 th], .agg #[.int .i64 ax, .int .i64 ay], .agg #[.int .i64 bx, .int .i64 by']] [none, none, none] (.func (.func 137) #[] #[.pointer (some ⟨3, 0, none⟩), .pointer (some ⟨4, 0, none⟩), .pointer (some ⟨5, 0, none⟩)]) [none, none, none, some ⟨[.slice (some ⟨0, 0, none⟩) n n, .slice (some ⟨1, 0, none⟩) p p, .slice (some ⟨2, 0, none⟩) w w, .int .i64 ex, .int .i64 no, .int .i64 th], true, 1⟩, some ⟨[.int .i64 ax, .int .i64 ay], true, 1⟩, some ⟨[.int .i64 bx, .int .i64 by'], true, 1⟩] := by
  refine acalls_of_aw Tryz.func136 rfl rfl ?_
  repeat' first | refine st ?_ | refine st (h := ok_makeFunc (by ((repeat (apply ArgsR.cons; rfl)); exact ArgsR.nil)) (by ((repeat (apply ArgsR.cons; rfl)); exact ArgsR.nil))) ?_ | refine stm ?_ | refine run_nil ?_ | refine Jz ?_ | refine Jw ?_ | refine aw_ret ?_
  all_goals exact pm_ret _ (renumD [0, 1, 2, 3, 4, 5]) rfl
/-- The power at a point, ahead of the walls. -/
def atQ (ex ax ay P bx by' : Int) : Int := if ex = 4 then ((P * 100).tdiv (max (sqI ax ay bx by') 100) * 100).tdiv (max (sqI ax ay bx by') 100) else (P * 100).tdiv (max (sqI ax ay bx by') 100)
/-- The power at a point of a sender at another one. -/
def atI (ex ax ay P bx by' : Int) (L : List Wl) : Int := (L.filter (crW ax ay bx by')).foldl (fun p w => sclI p w.fc) (atQ ex ax ay P bx by')
set_option maxHeartbeats 16000000 in
theorem ac_at (n p w : Nat) (ex no th ax ay P bx by' : Int) (L : List Wl) (hw : L.length = w) (hb : w ≤ 32) (hp : (0 ≤ ax ∧ ax ≤ 10000) ∧ (0 ≤ ay ∧ ay ≤ 10000) ∧ (0 ≤ bx ∧ bx ≤ 10000) ∧ (0 ≤ by' ∧ by' ≤ 10000)) (hP : 0 ≤ P ∧ P ≤ 68719476736) (hL : ∀ x ∈ L, wlOK x) (v : Int) (hv : atI ex ax ay P bx by' L = v) :
    ACalls Tryz.prog 124 [.agg #[.slice (some ⟨0, 0, none⟩) n n, .slice (some ⟨1, 0, none⟩) p p, .slice (some ⟨2, 0, none⟩) w w, .int .i64 ex, .int .i64 no, .int .i64 th], .agg #[.int .i64 ax, .int .i64 ay], .int .i64 P, .agg #[.int .i64 bx, .int .i64 by']] [none, none, some ⟨L.flatMap wlC, false, 1⟩] (.int .i64 v) [none, none, none] := by
  obtain ⟨z, hz⟩ : ∃ z, sqI ax ay bx by' = z := ⟨_, rfl⟩
  have H1 := ac_sq ax ay bx by' z (by omega) hz
  obtain ⟨q, hq⟩ : ∃ q, atQ ex ax ay P bx by' = q := ⟨_, rfl⟩
  unfold atI at hv
  rw [hq] at hv
  obtain ⟨N, hN⟩ : ∃ N, (L.filter (crW ax ay bx by')).length = N := ⟨_, rfl⟩
  subst hN
  unfold atQ at hq
  rw [hz] at hq
  have hm2 : max z 100 ≠ 0 := by omega
  have hm1 : 0 < max z 100 := by omega
  obtain ⟨q1, hq1⟩ : ∃ q1, (P * 100).tdiv (max z 100) = q1 := ⟨_, rfl⟩
  have b1 : 0 ≤ q1 ∧ q1 ≤ P * 100 := by
    rw [← hq1, Int.tdiv_eq_ediv_of_nonneg (by omega)]
    exact ⟨Int.ediv_nonneg (by omega) (by omega), Int.ediv_le_self _ (by omega)⟩
  obtain ⟨q2, hq2⟩ : ∃ q2, (q1 * 100).tdiv (max z 100) = q2 := ⟨_, rfl⟩
  have b2 : 0 ≤ q2 ∧ q2 ≤ q1 * 100 := by
    rw [← hq2, Int.tdiv_eq_ediv_of_nonneg (by omega)]
    exact ⟨Int.ediv_nonneg (by omega) (by omega), Int.ediv_le_self _ (by omega)⟩
  rw [hq1, hq2] at hq
  have hfc : ∀ (x : Fin (L.filter (crW ax ay bx by')).length), wlOK ((L.filter (crW ax ay bx by')).get x) := fun x => hL _ (List.mem_filter.1 (List.get_mem _ x)).1
  refine acalls_of_aw Tryz.func124 rfl rfl ?_
  by_cases hx4 : ex = 4
  · rw [if_pos hx4] at hq
    subst hq
    repeat' first | refine st (h := ok_quoD rfl rfl hm2 hq1 (by omega)) ?_ | refine st (h := ok_quoD rfl rfl hm2 hq2 (by omega)) ?_ | refine st ?_ | refine st_call (H1) ?_ | refine stMW [0, 1, 2] (ac_crossed n p w ex no th ax ay bx by') ?_ | refine stm ?_ | refine run_nil ?_ | refine Jz ?_ | refine Jw ?_ | refine aw_block ?_ | refine Js ?_
    refine aw_fits (σh := [(4, .pointer (some ⟨3, 0, none⟩)), (6, .pointer (some ⟨5, 0, none⟩)), (29, .func (.func 137) #[] #[.pointer (some ⟨7, 0, none⟩), .pointer (some ⟨8, 0, none⟩), .pointer (some ⟨9, 0, none⟩)])]) (mh := (fun pre : List (Fin (L.filter (crW ax ay bx by')).length) => [none, none, some ⟨L.flatMap wlC, false, 1⟩, some ⟨[.slice (some ⟨0, 0, none⟩) n n, .slice (some ⟨1, 0, none⟩) p p, .slice (some ⟨2, 0, none⟩) w w, .int .i64 ex, .int .i64 no, .int .i64 th], true, 1⟩, some ⟨[.int .i64 ax, .int .i64 ay], true, 1⟩, some ⟨[.int .i64 ((pre.map fun x => (L.filter (crW ax ay bx by')).get x).foldl (fun p w => sclI p w.fc) q2)], true, 1⟩, some ⟨[.int .i64 bx, .int .i64 by'], true, 1⟩, some ⟨[.slice (some ⟨0, 0, none⟩) n n, .slice (some ⟨1, 0, none⟩) p p, .slice (some ⟨2, 0, none⟩) w w, .int .i64 ex, .int .i64 no, .int .i64 th], true, 1⟩, some ⟨[.int .i64 ax, .int .i64 ay], true, 1⟩, some ⟨[.int .i64 bx, .int .i64 by'], true, 1⟩]) []) (fitsD [0, 1, 2, 3, 4, 5, 6, 7, 8, 9]) ?_
    refine aw_rangeGB (gf := 137) (caps := [.pointer (some ⟨0, 0, none⟩), .pointer (some ⟨1, 0, none⟩), .pointer (some ⟨2, 0, none⟩)]) 10 (gOf [7, 8, 9, 0, 1, 2] 10) (fun pre : List (Fin (L.filter (crW ax ay bx by')).length) => [none, none, some ⟨L.flatMap wlC, false, 1⟩, some ⟨[.slice (some ⟨0, 0, none⟩) n n, .slice (some ⟨1, 0, none⟩) p p, .slice (some ⟨2, 0, none⟩) w w, .int .i64 ex, .int .i64 no, .int .i64 th], true, 1⟩, some ⟨[.int .i64 ax, .int .i64 ay], true, 1⟩, some ⟨[.int .i64 ((pre.map fun x => (L.filter (crW ax ay bx by')).get x).foldl (fun p w => sclI p w.fc) q2)], true, 1⟩, some ⟨[.int .i64 bx, .int .i64 by'], true, 1⟩, some ⟨[.slice (some ⟨0, 0, none⟩) n n, .slice (some ⟨1, 0, none⟩) p p, .slice (some ⟨2, 0, none⟩) w w, .int .i64 ex, .int .i64 no, .int .i64 th], true, 1⟩, some ⟨[.int .i64 ax, .int .i64 ay], true, 1⟩, some ⟨[.int .i64 bx, .int .i64 by'], true, 1⟩]) (fun x => ⟨wlC ((L.filter (crW ax ay bx by')).get x), true, 1⟩) (fun _ => True) (fun _ => [(4, .pointer (some ⟨3, 0, none⟩)), (6, .pointer (some ⟨5, 0, none⟩)), (10, .pointer (some ⟨10, 0, none⟩))]) (fun _ _ => False)
      (it_crossed ax ay bx by' n p w ex no th L hw hb hp hL) rfl rfl trivial (by show 3 ≤ 10; omega) (fun i hi => by have hi : i < 6 := hi; have : i = 0 ∨ i = 1 ∨ i = 2 ∨ i = 3 ∨ i = 4 ∨ i = 5 := (by omega); rcases this with rfl | rfl | rfl | rfl | rfl | rfl <;> decide) rfl rfl rfl (by decide) (fun _ => rfl) (fun pre => ⟨rfl, noMap_of rfl, by show Renum 0 (gOf [7, 8, 9, 0, 1, 2] (List.length ([none, none, some ⟨L.flatMap wlC, false, 1⟩, some ⟨[.slice (some ⟨0, 0, none⟩) n n, .slice (some ⟨1, 0, none⟩) p p, .slice (some ⟨2, 0, none⟩) w w, .int .i64 ex, .int .i64 no, .int .i64 th], true, 1⟩, some ⟨[.int .i64 ax, .int .i64 ay], true, 1⟩, some ⟨[.int .i64 ((pre.map fun x => (L.filter (crW ax ay bx by')).get x).foldl (fun p w => sclI p w.fc) q2)], true, 1⟩, some ⟨[.int .i64 bx, .int .i64 by'], true, 1⟩, some ⟨[.slice (some ⟨0, 0, none⟩) n n, .slice (some ⟨1, 0, none⟩) p p, .slice (some ⟨2, 0, none⟩) w w, .int .i64 ex, .int .i64 no, .int .i64 th], true, 1⟩, some ⟨[.int .i64 ax, .int .i64 ay], true, 1⟩, some ⟨[.int .i64 bx, .int .i64 by'], true, 1⟩] : Mem))) ([none, none, some ⟨L.flatMap wlC, false, 1⟩, some ⟨[.slice (some ⟨0, 0, none⟩) n n, .slice (some ⟨1, 0, none⟩) p p, .slice (some ⟨2, 0, none⟩) w w, .int .i64 ex, .int .i64 no, .int .i64 th], true, 1⟩, some ⟨[.int .i64 ax, .int .i64 ay], true, 1⟩, some ⟨[.int .i64 ((pre.map fun x => (L.filter (crW ax ay bx by')).get x).foldl (fun p w => sclI p w.fc) q2)], true, 1⟩, some ⟨[.int .i64 bx, .int .i64 by'], true, 1⟩, some ⟨[.slice (some ⟨0, 0, none⟩) n n, .slice (some ⟨1, 0, none⟩) p p, .slice (some ⟨2, 0, none⟩) w w, .int .i64 ex, .int .i64 no, .int .i64 th], true, 1⟩, some ⟨[.int .i64 ax, .int .i64 ay], true, 1⟩, some ⟨[.int .i64 bx, .int .i64 by'], true, 1⟩] : Mem) _; exact renumD [7, 8, 9, 0, 1, 2]⟩) (fun pre => by repeat' first | intro h1 | exact SameSh.nil | apply SameSh.keep | refine SameSh.chg (by simp) (by simp) ?_) (fun x => ⟨rfl, by show (1 : Nat) ≠ mapZ; decide⟩) (fun x h => by cases h) (fun pre x => ⟨_, by exact renumD [0, 1, 2, 3, 4, 5, 6, 7, 8, 9]⟩) (fun _ _ h => h.elim) ?_ ?_ ?_ (fun _ _ h => h.elim)
    · intro pre x
      obtain ⟨⟨ux, uy, vx, vy, fc⟩, hx⟩ : ∃ u, (L.filter (crW ax ay bx by')).get x = u := ⟨_, rfl⟩
      unfold crE
      rw [hx]
      repeat' first | refine stm ?_ | refine run_nil ?_ | refine Jw ?_
      all_goals exact ⟨rfl, fitsD [0, 1, 2, 3, 4, 5, 6, 7, 8, 9, 10]⟩
    · intro pre x _ hpl
      obtain ⟨⟨ux, uy, vx, vy, fc⟩, hx⟩ : ∃ u, (L.filter (crW ax ay bx by')).get x = u := ⟨_, rfl⟩
      obtain ⟨c, hc⟩ : ∃ c, (pre.map fun x => (L.filter (crW ax ay bx by')).get x).foldl (fun p w => sclI p w.fc) q2 = c := ⟨_, rfl⟩
      have hu : ((pre ++ [x]).map fun x => (L.filter (crW ax ay bx by')).get x).foldl (fun p w => sclI p w.fc) q2 = sclI c fc := by
        rw [List.map_append, List.foldl_append, hc]
        show sclI c ((L.filter (crW ax ay bx by')).get x).fc = _
        rw [hx]
      have H3 := ac_scale c fc _ _ rfl rfl
      rw [hx, hc, hu]
      repeat' first | refine st ?_ | refine st_call (H3) ?_ | refine stm ?_ | refine run_nil ?_ | refine Jw ?_ | refine aw_block ?_
      all_goals exact .inl ⟨rfl, fitsD [0, 1, 2, 3, 4, 5, 6, 7, 8, 9], trivial⟩
    · intro _
      have hu : ((List.finRange _).map fun x => (L.filter (crW ax ay bx by')).get x).foldl (fun p w => sclI p w.fc) q2 = v := by
        rw [← hv]
        congr 1
        apply List.ext_getElem
        · simp
        · intro i h1 h2
          simp
      rw [hu]
      repeat' first | refine st ?_ | refine run_nil ?_ | refine Jz ?_ | refine Jw ?_ | refine aw_ret ?_
      all_goals exact pm_ret _ (renumD [0, 1, 2]) rfl
  · rw [if_neg hx4] at hq
    subst hq
    repeat' first | refine st (h := ok_quoD rfl rfl hm2 hq1 (by omega)) ?_ | refine st ?_ | refine st_call (H1) ?_ | refine stMW [0, 1, 2] (ac_crossed n p w ex no th ax ay bx by') ?_ | refine stm ?_ | refine run_nil ?_ | refine Jz ?_ | refine Jw ?_ | refine aw_block ?_ | refine Jt ?_ | refine Jy ?_
    refine aw_fits (σh := [(4, .pointer (some ⟨3, 0, none⟩)), (6, .pointer (some ⟨5, 0, none⟩)), (29, .func (.func 137) #[] #[.pointer (some ⟨7, 0, none⟩), .pointer (some ⟨8, 0, none⟩), .pointer (some ⟨9, 0, none⟩)])]) (mh := (fun pre : List (Fin (L.filter (crW ax ay bx by')).length) => [none, none, some ⟨L.flatMap wlC, false, 1⟩, some ⟨[.slice (some ⟨0, 0, none⟩) n n, .slice (some ⟨1, 0, none⟩) p p, .slice (some ⟨2, 0, none⟩) w w, .int .i64 ex, .int .i64 no, .int .i64 th], true, 1⟩, some ⟨[.int .i64 ax, .int .i64 ay], true, 1⟩, some ⟨[.int .i64 ((pre.map fun x => (L.filter (crW ax ay bx by')).get x).foldl (fun p w => sclI p w.fc) q1)], true, 1⟩, some ⟨[.int .i64 bx, .int .i64 by'], true, 1⟩, some ⟨[.slice (some ⟨0, 0, none⟩) n n, .slice (some ⟨1, 0, none⟩) p p, .slice (some ⟨2, 0, none⟩) w w, .int .i64 ex, .int .i64 no, .int .i64 th], true, 1⟩, some ⟨[.int .i64 ax, .int .i64 ay], true, 1⟩, some ⟨[.int .i64 bx, .int .i64 by'], true, 1⟩]) []) (fitsD [0, 1, 2, 3, 4, 5, 6, 7, 8, 9]) ?_
    refine aw_rangeGB (gf := 137) (caps := [.pointer (some ⟨0, 0, none⟩), .pointer (some ⟨1, 0, none⟩), .pointer (some ⟨2, 0, none⟩)]) 10 (gOf [7, 8, 9, 0, 1, 2] 10) (fun pre : List (Fin (L.filter (crW ax ay bx by')).length) => [none, none, some ⟨L.flatMap wlC, false, 1⟩, some ⟨[.slice (some ⟨0, 0, none⟩) n n, .slice (some ⟨1, 0, none⟩) p p, .slice (some ⟨2, 0, none⟩) w w, .int .i64 ex, .int .i64 no, .int .i64 th], true, 1⟩, some ⟨[.int .i64 ax, .int .i64 ay], true, 1⟩, some ⟨[.int .i64 ((pre.map fun x => (L.filter (crW ax ay bx by')).get x).foldl (fun p w => sclI p w.fc) q1)], true, 1⟩, some ⟨[.int .i64 bx, .int .i64 by'], true, 1⟩, some ⟨[.slice (some ⟨0, 0, none⟩) n n, .slice (some ⟨1, 0, none⟩) p p, .slice (some ⟨2, 0, none⟩) w w, .int .i64 ex, .int .i64 no, .int .i64 th], true, 1⟩, some ⟨[.int .i64 ax, .int .i64 ay], true, 1⟩, some ⟨[.int .i64 bx, .int .i64 by'], true, 1⟩]) (fun x => ⟨wlC ((L.filter (crW ax ay bx by')).get x), true, 1⟩) (fun _ => True) (fun _ => [(4, .pointer (some ⟨3, 0, none⟩)), (6, .pointer (some ⟨5, 0, none⟩)), (10, .pointer (some ⟨10, 0, none⟩))]) (fun _ _ => False)
      (it_crossed ax ay bx by' n p w ex no th L hw hb hp hL) rfl rfl trivial (by show 3 ≤ 10; omega) (fun i hi => by have hi : i < 6 := hi; have : i = 0 ∨ i = 1 ∨ i = 2 ∨ i = 3 ∨ i = 4 ∨ i = 5 := (by omega); rcases this with rfl | rfl | rfl | rfl | rfl | rfl <;> decide) rfl rfl rfl (by decide) (fun _ => rfl) (fun pre => ⟨rfl, noMap_of rfl, by show Renum 0 (gOf [7, 8, 9, 0, 1, 2] (List.length ([none, none, some ⟨L.flatMap wlC, false, 1⟩, some ⟨[.slice (some ⟨0, 0, none⟩) n n, .slice (some ⟨1, 0, none⟩) p p, .slice (some ⟨2, 0, none⟩) w w, .int .i64 ex, .int .i64 no, .int .i64 th], true, 1⟩, some ⟨[.int .i64 ax, .int .i64 ay], true, 1⟩, some ⟨[.int .i64 ((pre.map fun x => (L.filter (crW ax ay bx by')).get x).foldl (fun p w => sclI p w.fc) q1)], true, 1⟩, some ⟨[.int .i64 bx, .int .i64 by'], true, 1⟩, some ⟨[.slice (some ⟨0, 0, none⟩) n n, .slice (some ⟨1, 0, none⟩) p p, .slice (some ⟨2, 0, none⟩) w w, .int .i64 ex, .int .i64 no, .int .i64 th], true, 1⟩, some ⟨[.int .i64 ax, .int .i64 ay], true, 1⟩, some ⟨[.int .i64 bx, .int .i64 by'], true, 1⟩] : Mem))) ([none, none, some ⟨L.flatMap wlC, false, 1⟩, some ⟨[.slice (some ⟨0, 0, none⟩) n n, .slice (some ⟨1, 0, none⟩) p p, .slice (some ⟨2, 0, none⟩) w w, .int .i64 ex, .int .i64 no, .int .i64 th], true, 1⟩, some ⟨[.int .i64 ax, .int .i64 ay], true, 1⟩, some ⟨[.int .i64 ((pre.map fun x => (L.filter (crW ax ay bx by')).get x).foldl (fun p w => sclI p w.fc) q1)], true, 1⟩, some ⟨[.int .i64 bx, .int .i64 by'], true, 1⟩, some ⟨[.slice (some ⟨0, 0, none⟩) n n, .slice (some ⟨1, 0, none⟩) p p, .slice (some ⟨2, 0, none⟩) w w, .int .i64 ex, .int .i64 no, .int .i64 th], true, 1⟩, some ⟨[.int .i64 ax, .int .i64 ay], true, 1⟩, some ⟨[.int .i64 bx, .int .i64 by'], true, 1⟩] : Mem) _; exact renumD [7, 8, 9, 0, 1, 2]⟩) (fun pre => by repeat' first | intro h1 | exact SameSh.nil | apply SameSh.keep | refine SameSh.chg (by simp) (by simp) ?_) (fun x => ⟨rfl, by show (1 : Nat) ≠ mapZ; decide⟩) (fun x h => by cases h) (fun pre x => ⟨_, by exact renumD [0, 1, 2, 3, 4, 5, 6, 7, 8, 9]⟩) (fun _ _ h => h.elim) ?_ ?_ ?_ (fun _ _ h => h.elim)
    · intro pre x
      obtain ⟨⟨ux, uy, vx, vy, fc⟩, hx⟩ : ∃ u, (L.filter (crW ax ay bx by')).get x = u := ⟨_, rfl⟩
      unfold crE
      rw [hx]
      repeat' first | refine stm ?_ | refine run_nil ?_ | refine Jw ?_
      all_goals exact ⟨rfl, fitsD [0, 1, 2, 3, 4, 5, 6, 7, 8, 9, 10]⟩
    · intro pre x _ hpl
      obtain ⟨⟨ux, uy, vx, vy, fc⟩, hx⟩ : ∃ u, (L.filter (crW ax ay bx by')).get x = u := ⟨_, rfl⟩
      obtain ⟨c, hc⟩ : ∃ c, (pre.map fun x => (L.filter (crW ax ay bx by')).get x).foldl (fun p w => sclI p w.fc) q1 = c := ⟨_, rfl⟩
      have hu : ((pre ++ [x]).map fun x => (L.filter (crW ax ay bx by')).get x).foldl (fun p w => sclI p w.fc) q1 = sclI c fc := by
        rw [List.map_append, List.foldl_append, hc]
        show sclI c ((L.filter (crW ax ay bx by')).get x).fc = _
        rw [hx]
      have H3 := ac_scale c fc _ _ rfl rfl
      rw [hx, hc, hu]
      repeat' first | refine st ?_ | refine st_call (H3) ?_ | refine stm ?_ | refine run_nil ?_ | refine Jw ?_ | refine aw_block ?_
      all_goals exact .inl ⟨rfl, fitsD [0, 1, 2, 3, 4, 5, 6, 7, 8, 9], trivial⟩
    · intro _
      have hu : ((List.finRange _).map fun x => (L.filter (crW ax ay bx by')).get x).foldl (fun p w => sclI p w.fc) q1 = v := by
        rw [← hv]
        congr 1
        apply List.ext_getElem
        · simp
        · intro i h1 h2
          simp
      rw [hu]
      repeat' first | refine st ?_ | refine run_nil ?_ | refine Jz ?_ | refine Jw ?_ | refine aw_ret ?_
      all_goals exact pm_ret _ (renumD [0, 1, 2]) rfl
end Go.Proofs.YtdenooeaiicheaaGreat
namespace Go.Proofs.YtdenooeaiicheaaGreat
open Go Av
set_option maxRecDepth 20000
/-- The power of a node at another one. -/
def btI (ex : Int) (N : List P2) (Pw : List Int) (L : List Wl) (a b : Nat) : Int := if a = b then 0 else match N[a]?, Pw[a]?, N[b]? with
  | some p, some P, some q => atI ex p.x p.y P q.x q.y L
  | _, _, _ => 0
/-- What a right site's lists are. -/
structure SiteOK (N : List P2) (Pw : List Int) (L : List Wl) : Prop where
  n : ∀ q ∈ N, (0 ≤ q.x ∧ q.x ≤ 10000) ∧ (0 ≤ q.y ∧ q.y ≤ 10000)
  p : ∀ q ∈ Pw, 0 ≤ q ∧ q ≤ 68719476736
  w : ∀ q ∈ L, wlOK q
set_option maxHeartbeats 8000000 in
theorem ac_between (N : List P2) (Pw : List Int) (L : List Wl) (n p w : Nat) (hn : N.length = n) (hp : Pw.length = p) (hw : L.length = w) (hb : n ≤ 32 ∧ p = n ∧ w ≤ 32) (ex no th : Int) (hok : SiteOK N Pw L) (a b : Nat) (hab : a < n ∧ b < n) (v : Int) (hv : btI ex N Pw L a b = v) :
    ACalls Tryz.prog 121 [.agg #[.slice (some ⟨0, 0, none⟩) n n, .slice (some ⟨1, 0, none⟩) p p, .slice (some ⟨2, 0, none⟩) w w, .int .i64 ex, .int .i64 no, .int .i64 th], .int .i64 a, .int .i64 b] [some ⟨N.flatMap ptC, false, 1⟩, some ⟨List.map (Value.int .i64) Pw, false, 1⟩, some ⟨L.flatMap wlC, false, 1⟩] (.int .i64 v) [none, none, none] := by
  obtain ⟨⟨ax, ay⟩, ha⟩ : ∃ q, N[a]? = some q := ⟨_, List.getElem?_eq_getElem (by omega)⟩
  obtain ⟨⟨bx, by'⟩, hb'⟩ : ∃ q, N[b]? = some q := ⟨_, List.getElem?_eq_getElem (by omega)⟩
  obtain ⟨P, hP⟩ : ∃ q, Pw[a]? = some q := ⟨_, List.getElem?_eq_getElem (by omega)⟩
  have k1 := hok.n _ (List.mem_of_getElem? ha)
  have k2 := hok.n _ (List.mem_of_getElem? hb')
  have k3 := hok.p _ (List.mem_of_getElem? hP)
  dsimp only at k1 k2
  unfold btI at hv
  rw [ha, hb', hP] at hv
  dsimp only at hv
  by_cases he : a = b
  · rw [if_pos he] at hv
    subst hv
    have he' : (a : Int) = b := by omega
    refine acalls_law Tryz.func121 rfl rfl rfl ?_
    repeat' first | refine st ?_ | refine stm ?_ | refine run_nil ?_ | refine Jz ?_ | refine Jw ?_ | refine Js ?_ | refine aw_ret ?_ | refine pp_ret ?_
    all_goals first
      | rfl
      | (exfalso; omega)
      | (refine congrArg Value.bool ?_; first | exact decide_eq_true (by omega) | exact decide_eq_false (by omega) | exact (decide_eq_true (by omega)).symm | exact (decide_eq_false (by omega)).symm)
      | (show Value.bool _ = Value.bool _; congr 1; first | exact decide_eq_true (by omega) | exact decide_eq_false (by omega) | exact (decide_eq_true (by omega)).symm | exact (decide_eq_false (by omega)).symm)
      | (simp [retOf]; done)
  · rw [if_neg he] at hv
    have he' : ¬ (a : Int) = b := by omega
    have H := ac_at n p w ex no th ax ay P bx by' L hw (by omega) (by omega) k3 hok.w v hv
    refine acalls_law Tryz.func121 rfl rfl rfl ?_
    repeat' first | refine sdl (h := ok_load_rowsE (f := ptC) (cs := [.int .i64 ax, .int .i64 ay]) a (fun _ => rfl) ha rfl rfl rfl rfl (by omega)) ?_ | refine sdl (h := ok_load_rowsE (f := ptC) (cs := [.int .i64 bx, .int .i64 by']) b (fun _ => rfl) hb' rfl rfl rfl rfl (by omega)) ?_ | refine sdl (h := ok_load_mapE (f := Value.int .i64) a hP rfl rfl rfl (by omega)) ?_ | refine st ?_ | refine sdRW [0, 1, 2] H ?_ | refine stm ?_ | refine run_nil ?_ | refine sd ?_ | refine sdl ?_ | refine rund_nil ?_ | refine Jz ?_ | refine Jw ?_ | refine Jx (id := 3) [0,0,2,0,14,30,0,64,0,448,960,0,2048,0,14336,30720,65535,131071] 18 ?_ | refine Jt ?_ | refine Jy ?_ | refine aw_ret ?_ | refine pp_ret ?_
    all_goals first
      | rfl
      | (exfalso; omega)
      | (refine congrArg Value.bool ?_; first | exact decide_eq_true (by omega) | exact decide_eq_false (by omega) | exact (decide_eq_true (by omega)).symm | exact (decide_eq_false (by omega)).symm)
      | (show Value.bool _ = Value.bool _; congr 1; first | exact decide_eq_true (by omega) | exact decide_eq_false (by omega) | exact (decide_eq_true (by omega)).symm | exact (decide_eq_false (by omega)).symm)
      | (simp [retOf]; done)
end Go.Proofs.YtdenooeaiicheaaGreat
namespace Go.Proofs.YtdenooeaiicheaaGreat
open Go Av
set_option maxRecDepth 20000
theorem fidx_none {α : Type} {q : α → Bool} {l : List α} (h : fidx q l = -1) : ∀ x ∈ l, q x = false := fun x hx => by
  unfold fidx at h
  split at h
  · omega
  · rename_i hn
    cases hq : q x with
    | false => rfl
    | true => exact absurd (List.findIdx_lt_length_of_exists ⟨x, hx, hq⟩) hn
theorem site_ok {N : List P2} {Pw : List Int} {L : List Wl} {ex no th : Int} (h : siteB N Pw L ex no th = true) : SiteOK N Pw L ∧ 2 ≤ N.length ∧ N.length ≤ 32 ∧ Pw.length = N.length ∧ L.length ≤ 32 ∧ (ex = 2 ∨ ex = 4) ∧ (1000 ≤ th ∧ th ≤ 100000) ∧ 1 ≤ no ∧ no ≤ 68719476736 := by
  unfold siteB at h
  simp only [Bool.and_eq_true, Bool.not_eq_true', decide_eq_true_eq, decide_eq_false_iff_not, Decidable.not_not] at h
  obtain ⟨h1, h2, h3, h4⟩ := h
  refine ⟨⟨fun q hq => ?_, fun q hq => ?_, fun q hq => ?_⟩, by omega, by omega, by omega, by omega, h1.2.2.2.2.1, h1.2.2.2.2.2.1, by omega, by omega⟩
  · have := fidx_none h2 q hq
    unfold badP ptB at this
    simp at this
    omega
  · have := fidx_none h3 q hq
    unfold badN powB at this
    simp at this
    omega
  · have := fidx_none h4 q hq
    unfold badW ptB at this
    simp at this
    unfold wlOK
    omega
set_option maxHeartbeats 8000000 in
theorem ac_Between (N : List P2) (Pw : List Int) (L : List Wl) (n p w : Nat) (hn : N.length = n) (hp : Pw.length = p) (hw : L.length = w) (hb : n ≤ 1000000 ∧ p ≤ 1000000 ∧ w ≤ 1000000) (ex no th : Int) (hok : siteB N Pw L ex no th = true) (a b : Nat) (hab : a < n ∧ b < n) (v : Int) (hv : btI ex N Pw L a b = v) :
    ACalls Tryz.prog 109 [.agg #[.slice (some ⟨0, 0, none⟩) n n, .slice (some ⟨1, 0, none⟩) p p, .slice (some ⟨2, 0, none⟩) w w, .int .i64 ex, .int .i64 no, .int .i64 th], .int .i64 a, .int .i64 b] [some ⟨N.flatMap ptC, false, 1⟩, some ⟨List.map (Value.int .i64) Pw, false, 1⟩, some ⟨L.flatMap wlC, false, 1⟩] (.tuple #[.int .i64 v, .int .i64 0]) [none, none, none] := by
  obtain ⟨s1, s2, s3, s4, s5, _⟩ := site_ok hok
  have H1 := ac_site N Pw L n p w hn hp hw hb ex no th true hok
  have H2 := ac_between N Pw L n p w hn hp hw (by omega) ex no th s1 a b hab v hv
  rw [if_pos rfl] at H1
  refine acalls_law Tryz.func109 rfl rfl rfl ?_
  repeat' first | refine st ?_ | refine stRW [0, 1, 2] H1 ?_ | refine stRW [0, 1, 2] H2 ?_ | refine stm ?_ | refine Ja ?_ | refine Jf ?_ | refine run_nil ?_ | refine Jz ?_ | refine Jw ?_ | refine aw_block ?_ | refine Jr ?_ | refine Jt ?_ | refine Jy ?_ | refine aw_ret ?_ | refine pp_ret ?_
  all_goals first
    | rfl
    | (exfalso; omega)
    | (refine congrArg Value.bool ?_; first | exact decide_eq_true (by omega) | exact decide_eq_false (by omega) | exact (decide_eq_true (by omega)).symm | exact (decide_eq_false (by omega)).symm)
    | (show Value.bool _ = Value.bool _; congr 1; first | exact decide_eq_true (by omega) | exact decide_eq_false (by omega) | exact (decide_eq_true (by omega)).symm | exact (decide_eq_false (by omega)).symm)
    | (simp [retOf]; done)
set_option maxHeartbeats 8000000 in
theorem ac_At (N : List P2) (Pw : List Int) (L : List Wl) (n p w : Nat) (hn : N.length = n) (hp : Pw.length = p) (hw : L.length = w) (hb : n ≤ 1000000 ∧ p ≤ 1000000 ∧ w ≤ 1000000) (ex no th ax ay P bx by' : Int) (hok : siteB N Pw L ex no th = true) (hpt : (0 ≤ ax ∧ ax ≤ 10000) ∧ (0 ≤ ay ∧ ay ≤ 10000) ∧ (0 ≤ bx ∧ bx ≤ 10000) ∧ (0 ≤ by' ∧ by' ≤ 10000)) (hP : 0 ≤ P ∧ P ≤ 68719476736) (v : Int) (hv : atI ex ax ay P bx by' L = v) :
    ACalls Tryz.prog 114 [.agg #[.slice (some ⟨0, 0, none⟩) n n, .slice (some ⟨1, 0, none⟩) p p, .slice (some ⟨2, 0, none⟩) w w, .int .i64 ex, .int .i64 no, .int .i64 th], .agg #[.int .i64 ax, .int .i64 ay], .int .i64 P, .agg #[.int .i64 bx, .int .i64 by']] [some ⟨N.flatMap ptC, false, 1⟩, some ⟨List.map (Value.int .i64) Pw, false, 1⟩, some ⟨L.flatMap wlC, false, 1⟩] (.tuple #[.int .i64 v, .int .i64 0]) [none, none, none] := by
  obtain ⟨s1, s2, s3, s4, s5, _⟩ := site_ok hok
  have H1 := ac_site N Pw L n p w hn hp hw hb ex no th true hok
  have H2 := ac_at n p w ex no th ax ay P bx by' L hw (by omega) hpt hP s1.w v hv
  have H3 := ac_point ax ay true (by unfold ptB; simp; omega)
  have H4 := ac_point bx by' true (by unfold ptB; simp; omega)
  have H5 := ac_isPower P true (by unfold powB; simp; omega)
  rw [if_pos rfl] at H1
  refine acalls_law Tryz.func114 rfl rfl rfl ?_
  repeat' first | refine st ?_ | refine stRW [0, 1, 2] H1 ?_ | refine stRW [0, 1, 2] H2 ?_ | refine st_call (H3) ?_ | refine st_call (H4) ?_ | refine st_call (H5) ?_ | refine stm ?_ | refine Ja ?_ | refine run_nil ?_ | refine Jz ?_ | refine Jw ?_ | refine aw_block ?_ | refine Jr ?_ | refine Jy ?_ | refine aw_ret ?_ | refine pp_ret ?_
  all_goals first
    | rfl
    | (exfalso; omega)
    | (refine congrArg Value.bool ?_; first | exact decide_eq_true (by omega) | exact decide_eq_false (by omega) | exact (decide_eq_true (by omega)).symm | exact (decide_eq_false (by omega)).symm)
    | (show Value.bool _ = Value.bool _; congr 1; first | exact decide_eq_true (by omega) | exact decide_eq_false (by omega) | exact (decide_eq_true (by omega)).symm | exact (decide_eq_false (by omega)).symm)
    | (simp [retOf]; done)
end Go.Proofs.YtdenooeaiicheaaGreat
namespace Go.Proofs.YtdenooeaiicheaaGreat
open Go Av
set_option maxRecDepth 20000
/-- A fading is about transmissions from a to b. -/
def fbB (fr to' a b : Int) : Bool := decide ((fr = -1 ∨ fr = a) ∧ (to' = -1 ∨ to' = b))
def fdB (a b c t fr to' ch f1 f2 : Int) : Bool := fbB fr to' a b && decide ((ch = -1 ∨ ch = c) ∧ f1 ≤ t ∧ t < f2)
set_option maxHeartbeats 4000000 in
theorem ac_fb (fr to' ch f1 f2 fc a b : Int) (x : Bool) (hx : fbB fr to' a b = x)  : ACalls Tryz.prog 111 [.agg #[.int .i64 fr, .int .i64 to', .int .i64 ch, .int .i64 f1, .int .i64 f2, .int .i64 fc], .int .i64 a, .int .i64 b] [] (.bool x) [] := by
  unfold fbB at hx
  refine acalls_pure Tryz.func111 rfl rfl rfl ?_
  repeat' first | intro h1 | refine st ?_ | refine stm ?_ | refine Ja ?_ | refine Jb ?_ | refine Jc ?_ | refine Jh ?_ ?_ | refine Ji ?_ ?_ | refine run_nil ?_ | refine Jz ?_ | refine Jw ?_ | refine aw_ret ?_ | refine pp_ret ?_
  all_goals first
    | rfl
    | (exfalso; omega)
    | (rw [← hx]; refine congrArg Value.bool ?_; first | exact (decide_eq_true (by omega)).symm | exact (decide_eq_false (by omega)).symm | exact decide_eq_decide.2 (by omega))
    | (rw [← hx]; show Value.bool _ = Value.bool _; congr 1; first | exact (decide_eq_true (by omega)).symm | exact (decide_eq_false (by omega)).symm | exact decide_eq_decide.2 (by omega))
    | (exfalso; simp only [Bool.not_eq_true', Bool.not_eq_false', decide_eq_true_eq, decide_eq_false_iff_not, Bool.not_false, Bool.not_true] at *; omega)
    | (simp [retOf]; done)
set_option maxHeartbeats 8000000 in
theorem ac_fac1 (fr to' ch f1 f2 fc a b c t : Int) (x : Bool) (hx : fdB a b c t fr to' ch f1 f2 = x) : ACalls Tryz.prog 110 [.agg #[.int .i64 fr, .int .i64 to', .int .i64 ch, .int .i64 f1, .int .i64 f2, .int .i64 fc], .pointer (some ⟨0, 0, none⟩), .pointer (some ⟨1, 0, none⟩), .pointer (some ⟨2, 0, none⟩), .pointer (some ⟨3, 0, none⟩)] [some ⟨[.int .i64 a], false, 1⟩, some ⟨[.int .i64 b], false, 1⟩, some ⟨[.int .i64 c], false, 1⟩, some ⟨[.int .i64 t], false, 1⟩] (.bool x) [none, none, none, none] := by
  obtain ⟨y, hy⟩ : ∃ y, fbB fr to' a b = y := ⟨_, rfl⟩
  have H := ac_fb fr to' ch f1 f2 fc a b y hy
  unfold fdB at hx
  rw [hy] at hx
  clear hy
  cases y
  · rw [Bool.false_and] at hx
    subst hx
    refine acalls_law Tryz.func110 rfl rfl rfl ?_
    repeat' first | refine st ?_ | refine st_call (H) ?_ | refine stm ?_ | refine Jb ?_ | refine Jc ?_ | refine run_nil ?_ | refine Jz ?_ | refine Jw ?_ | refine aw_ret ?_ | refine pp_ret ?_
    all_goals first
      | rfl
      | (exfalso; omega)
      | (refine congrArg Value.bool ?_; first | exact decide_eq_true (by omega) | exact decide_eq_false (by omega) | exact (decide_eq_true (by omega)).symm | exact (decide_eq_false (by omega)).symm)
      | (show Value.bool _ = Value.bool _; congr 1; first | exact decide_eq_true (by omega) | exact decide_eq_false (by omega) | exact (decide_eq_true (by omega)).symm | exact (decide_eq_false (by omega)).symm)
      | (simp [retOf]; done)
  · rw [Bool.true_and] at hx
    refine acalls_law Tryz.func110 rfl rfl rfl ?_
    repeat' first | intro h1 | refine st ?_ | refine st_call (H) ?_ | refine stm ?_ | refine Ja ?_ | refine Jb ?_ | refine Jh ?_ ?_ | refine Ji ?_ ?_ | refine run_nil ?_ | refine Jz ?_ | refine Jw ?_ | refine aw_ret ?_ | refine pp_ret ?_
    all_goals first
      | rfl
      | (exfalso; omega)
      | (rw [← hx]; refine congrArg Value.bool ?_; first | exact (decide_eq_true (by omega)).symm | exact (decide_eq_false (by omega)).symm | exact decide_eq_decide.2 (by omega))
      | (rw [← hx]; show Value.bool _ = Value.bool _; congr 1; first | exact (decide_eq_true (by omega)).symm | exact (decide_eq_false (by omega)).symm | exact decide_eq_decide.2 (by omega))
      | (exfalso; simp only [Bool.not_eq_true', Bool.not_eq_false', decide_eq_true_eq, decide_eq_false_iff_not, Bool.not_false, Bool.not_true] at *; omega)
      | (simp [retOf]; done)
end Go.Proofs.YtdenooeaiicheaaGreat
