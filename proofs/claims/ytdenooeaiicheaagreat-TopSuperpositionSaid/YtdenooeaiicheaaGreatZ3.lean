/- Emissions cloned, and one of them deleted. Air: build, check. Air: Receivers. -/
import Derived.Test.YtdenooeaiicheaaGreatVL
import Derived.Test.YtdenooeaiicheaaGreatVT
import Derived.Test.YtdenooeaiicheaaGreatT3
import Derived.Test.YtdenooeaiicheaaGreatY3
import Derived.Test.YtdenooeaiicheaaGreatY4
set_option linter.unusedVariables false
set_option linter.unusedSimpArgs false
namespace Go.Proofs.YtdenooeaiicheaaGreat
open Go Av
set_option maxRecDepth 20000
theorem emC_all (E : List Em) : (E.flatMap emC).length = 4 * E.length := by
  induction E with
  | nil => rfl
  | cons e E ih => rw [List.flatMap_cons, List.length_append, ih, List.length_cons]; show 4 + _ = _; omega
theorem emC_one (E : List Em) : (E.flatMap emC).all (·.oneCell') = true := by
  rw [List.all_eq_true]
  intro v hv
  obtain ⟨e, _, he⟩ := List.mem_flatMap.1 hv
  simp only [emC, List.mem_cons, List.not_mem_nil, or_false] at he
  rcases he with rfl | rfl | rfl | rfl <;> rfl
theorem emC_tk (E : List Em) : ∀ (i : Nat), i ≤ E.length → (E.flatMap emC).take (i * 4) = (E.take i).flatMap emC := by
  induction E with
  | nil => intro i _; simp
  | cons e E ih =>
    intro i hi
    cases i with
    | zero => simp
    | succ i =>
      rw [List.take_succ_cons, List.flatMap_cons, List.flatMap_cons, ← ih i (by simpa using hi), List.take_append]
      have h4 : (emC e).length = 4 := rfl
      rw [h4, List.take_of_length_le (by rw [h4]; omega)]
      congr 2
      omega
theorem emC_dr (E : List Em) : ∀ (i : Nat), i ≤ E.length → (E.flatMap emC).drop (i * 4) = (E.drop i).flatMap emC := by
  induction E with
  | nil => intro i _; simp
  | cons e E ih =>
    intro i hi
    cases i with
    | zero => simp
    | succ i =>
      rw [List.drop_succ_cons, List.flatMap_cons, ← ih i (by simpa using hi), List.drop_append]
      have h4 : (emC e).length = 4 := rfl
      rw [h4, List.drop_eq_nil_of_le (by rw [h4]; omega), List.nil_append]
      congr 1
      omega
theorem emC_take {E : List Em} {n : Nat} (hn : E.length = n) : ((E.flatMap emC).drop 0).take (n * 4) = E.flatMap emC := by
  rw [List.drop_zero, List.take_of_length_le (by rw [emC_all]; omega)]
theorem emC_rest {E : List Em} {n i : Nat} (hn : E.length = n) (hi : i ≤ n) : ((E.flatMap emC).drop (0 + i * 4)).take ((n - i) * 4) = (E.drop i).flatMap emC := by
  rw [Nat.zero_add, emC_dr E i (by omega), List.take_of_length_le (by rw [emC_all, List.length_drop]; omega)]
theorem emC_er (E : List Em) (i : Nat) : (E.take i).flatMap emC ++ (E.drop (i + 1)).flatMap emC = (E.eraseIdx i).flatMap emC := by
  rw [List.eraseIdx_eq_take_drop_succ, List.flatMap_append]
set_option maxHeartbeats 2000000 in
theorem ac_cloneE (E : List Em) (n : Nat) (hn : E.length = n) (hb : n ≤ 1000000) (h0 : n ≠ 0) : ACalls Tryz.prog 7 [.slice (some ⟨0, 0, none⟩) n n] [some ⟨E.flatMap emC, false, 4⟩] (.slice (some ⟨1, 0, none⟩) n n) [none, some ⟨E.flatMap emC, true, 4⟩] := by
  refine acalls_of_aw Tryz.func7 rfl rfl ?_
  repeat' first | refine st (h := ok_slice_nilF rfl rfl (by omega)) ?_ | refine stm (h := by (apply ok_append0 (xs := E.flatMap emC); rfl; rfl; rfl; rfl; rfl; rfl; (focus (refine Src.slc rfl Ty.eq rfl (by rw [emC_all]; omega) (emC_take hn) (emC_one E) rfl)); (focus (exact Nat.zero_le _)); omega; (focus ((repeat constructor); first | done | fail)))) ?_ | refine st ?_ | refine stm ?_ | refine run_nil ?_ | refine Jz ?_ | refine Jw ?_ | refine Jr ?_ | refine Jy ?_ | refine aw_ret ?_
  all_goals first | exact pm_ret _ (renumD [0, 2]) rfl
set_option maxHeartbeats 4000000 in
theorem ac_deleteE (E : List Em) (n i : Nat) (hn : E.length = n) (hb : n ≤ 1000000) (hi : i < n) : ACalls Tryz.prog 8 [.slice (some ⟨0, 0, none⟩) n n, .int .i64 (i : Int), .int .i64 ((i + 1 : Nat) : Int)] [some ⟨E.flatMap emC, true, 4⟩] (.slice (some ⟨1, 0, none⟩) (i + (n - (i + 1))) (i + (n - (i + 1)))) [none, some ⟨(E.eraseIdx i).flatMap emC, true, 4⟩] := by
  refine acalls_of_aw Tryz.func8 rfl rfl ?_
  repeat' first | refine st (h := ok_move_cap (d := some 32) rfl) ?_ | refine st (h := ok_slice3 (l := i) (h := i + 1) (q := n) rfl rfl rfl rfl rfl rfl (by omega)) ?_ | refine sdl (h := by (apply ok_slice_cap; rfl; rfl; omega; (focus (apply BndR.some; rfl; omega)); omega)) ?_ | refine sdb (n := 1) (h := by (apply ok_append_in (cs := (E.eraseIdx i).flatMap emC) (olds := (E.take i).flatMap emC); rfl; rfl; rfl; omega; rfl; rfl; (focus (refine Src.slc rfl Ty.eq rfl (by rw [emC_all]; omega) (emC_rest hn (by omega)) (emC_one _) rfl)); (focus (rw [emC_all]; omega)); (focus (exact emC_tk E i (by omega))); (focus (exact emC_er E i)); omega; (focus ((repeat constructor); first | done | fail)))) ?_ | refine st (h := by (apply ok_slice_cap2; rfl; rfl; rfl; (focus (apply BndR.some; rfl; omega)); (focus (apply BndR.some; rfl; omega)); omega)) ?_ | refine st (h := by (apply ok_clear_cap; rfl; rfl; rfl; rfl; rfl; rfl; rfl; (focus (show (List.flatMap emC (E.eraseIdx i)).length ≤ _; rw [emC_all, List.length_eraseIdx_of_lt (by omega)]; omega)); rfl)) ?_ | refine st ?_ | refine run_nil ?_ | refine sd ?_ | refine sdl ?_ | refine rund_nil ?_ | refine Jz ?_ | refine Jw ?_ | refine Jx (id := 5) [0,0,3,0,0,24,63,127] 6 ?_ | refine Jt ?_ | refine Jy ?_ | refine aw_ret ?_
  all_goals first | exact pm_ret _ (renumD [0, 1]) rfl
end Go.Proofs.YtdenooeaiicheaaGreat
namespace Go.Proofs.YtdenooeaiicheaaGreat
open Go Av
set_option maxRecDepth 20000
theorem em_val {n : Int} {e : Em} (h : emE n e = 0) : (0 ≤ e.nd ∧ e.nd < n) ∧ (0 ≤ e.ch ∧ e.ch < 16) ∧ 0 ≤ e.fr ∧ e.fr < e.to' ∧ e.to' ≤ 1099511627776 := by
  unfold emE at h
  split at h
  · rename_i h1
    split at h
    · rename_i h2
      exact ⟨h1, h2⟩
    · cases h
  · cases h
/-- What a list of emissions is that is right behind others. -/
theorem ckG_iff (n : Int) : ∀ (E pre : List Em), ckG n pre E = 0 ↔ (∀ e ∈ E, emE n e = 0) ∧ (∀ e ∈ E, ∀ b ∈ pre, cfQ e b = false) ∧ E.Pairwise (fun b e => cfQ e b = false)
  | [], pre => by simp [ckG]
  | a :: E, pre => by
    have ih := ckG_iff n E (pre ++ [a])
    have h1 : ckA n pre a = 0 ↔ emE n a = 0 ∧ ∀ b ∈ pre, cfQ a b = false := by
      unfold ckA
      by_cases he : emE n a = 0
      · rw [if_pos he]
        by_cases hf : fidx (cfQ a) pre = -1
        · rw [if_pos hf]
          exact ⟨fun _ => ⟨he, fidx_none hf⟩, fun _ => rfl⟩
        · rw [if_neg hf]
          refine ⟨fun h => absurd h (by decide), fun ⟨_, h⟩ => absurd (fidx_no (q := cfQ a) (l := pre) fun j hj q hq => h q (List.mem_of_getElem? hq)) hf⟩
      · rw [if_neg he]
        exact ⟨fun h => absurd h he, fun h => absurd h.1 he⟩
    rw [ckG]
    by_cases hA : ckA n pre a = 0
    · rw [if_pos hA, ih]
      have hA' := h1.1 hA
      rw [List.pairwise_cons]
      constructor
      · rintro ⟨k1, k2, k3⟩
        refine ⟨?_, ?_, ?_, k3⟩
        · intro e he
          rcases List.mem_cons.1 he with rfl | he
          · exact hA'.1
          · exact k1 e he
        · intro e he b hb
          rcases List.mem_cons.1 he with rfl | he
          · exact hA'.2 b hb
          · exact k2 e he b (List.mem_append_left _ hb)
        · intro e he
          exact k2 e he a (by simp)
      · rintro ⟨k1, k2, k3, k4⟩
        refine ⟨fun e he => k1 e (List.mem_cons_of_mem _ he), fun e he b hb => ?_, k4⟩
        rcases List.mem_append.1 hb with hb | hb
        · exact k2 e (List.mem_cons_of_mem _ he) b hb
        · simp only [List.mem_singleton] at hb
          subst hb
          exact k3 e he
    · rw [if_neg hA]
      refine ⟨fun h => absurd h hA, fun ⟨k1, k2, _⟩ => absurd (h1.2 ⟨k1 a (List.mem_cons_self ..), k2 a (List.mem_cons_self ..)⟩) hA⟩
theorem air_ok {N : List P2} {Pw : List Int} {L : List Wl} {ex no th : Int} {S : List Sr} {F : List Fd} {E : List Em} (h : airE N Pw L ex no th S F E = 0) : siteB N Pw L ex no th = true ∧ spB S F = true ∧ E.length ≤ 48 ∧ ckG N.length [] E = 0 := by
  unfold airE at h
  split at h
  · rename_i h1
    split at h
    · rename_i h2
      exact ⟨h1.1, h1.2, h2, h⟩
    · cases h
  · cases h
theorem air_em {N : List P2} {Pw : List Int} {L : List Wl} {ex no th : Int} {S : List Sr} {F : List Fd} {E : List Em} (h : airE N Pw L ex no th S F E = 0) : emOK N.length E := fun e he => em_val (((ckG_iff _ _ _).1 (air_ok h).2.2.2).1 e he)
/-- If one of them keeps silent, the others are right. -/
theorem air_less {N : List P2} {Pw : List Int} {L : List Wl} {ex no th : Int} {S : List Sr} {F : List Fd} {E E' : List Em} (h : airE N Pw L ex no th S F E = 0) (hs : E'.Sublist E) : airE N Pw L ex no th S F E' = 0 := by
  obtain ⟨h1, h2, h3, h4⟩ := air_ok h
  unfold airE
  rw [if_pos ⟨h1, h2⟩, if_pos (Nat.le_trans hs.length_le h3)]
  obtain ⟨k1, k2, k3⟩ := (ckG_iff _ _ _).1 h4
  exact (ckG_iff _ _ _).2 ⟨fun e he => k1 e (hs.subset he), fun e _ b hb => (by cases hb), k3.sublist hs⟩
set_option maxHeartbeats 8000000 in
theorem ac_build (N : List P2) (Pw : List Int) (L : List Wl) (n p w : Nat) (hn : N.length = n) (hp : Pw.length = p) (hw : L.length = w) (hb : n ≤ 1000000 ∧ p ≤ 1000000 ∧ w ≤ 1000000) (ex no th : Int) (S : List Sr) (F : List Fd) (ns nf : Nat) (hns : S.length = ns) (hnf : F.length = nf) (hS : S.length ≤ 8) (hbf : nf ≤ 1000000) (hch : chsL S) (E : List Em) (ne : Nat) (hne : E.length = ne) (hbe : ne ≤ 1000000) (hv : airE N Pw L ex no th S F E = 0) : ACalls Tryz.prog 35 [.agg #[.slice (some ⟨0, 0, none⟩) n n, .slice (some ⟨1, 0, none⟩) p p, .slice (some ⟨2, 0, none⟩) w w, .int .i64 ex, .int .i64 no, .int .i64 th], .agg #[.slice (some ⟨3, 0, none⟩) ns ns, .slice (some ⟨4, 0, none⟩) nf nf], .slice (some ⟨13, 0, none⟩) ne ne] [some ⟨N.flatMap ptC, false, 1⟩, some ⟨List.map (Value.int .i64) Pw, false, 1⟩, some ⟨L.flatMap wlC, false, 1⟩, some ⟨srcs S, false, 1⟩, some ⟨F.flatMap fdC, false, 1⟩, chB S 0, chB S 1, chB S 2, chB S 3, chB S 4, chB S 5, chB S 6, chB S 7, some ⟨E.flatMap emC, false, 4⟩] (.tuple #[.agg #[.slice (some ⟨0, 0, none⟩) n n, .slice (some ⟨1, 0, none⟩) p p, .slice (some ⟨2, 0, none⟩) w w, .int .i64 ex, .int .i64 no, .int .i64 th, .slice (some ⟨3, 0, none⟩) ns ns, .slice (some ⟨4, 0, none⟩) nf nf, .slice (some ⟨13, 0, none⟩) ne ne, .func (.func 66) #[] #[.pointer (some ⟨14, 0, none⟩)]], .int .i64 0]) [none, none, none, none, none, none, none, none, none, none, none, none, none, none, some ⟨[.slice (some ⟨0, 0, none⟩) n n, .slice (some ⟨1, 0, none⟩) p p, .slice (some ⟨2, 0, none⟩) w w, .int .i64 ex, .int .i64 no, .int .i64 th], true, 1⟩] := by
  have H := ac_airCheck N Pw L n p w hn hp hw hb ex no th S F ns nf hns hnf hS hbf hch E ne hne hbe 0 hv
  clear hv
  refine acalls_of_aw Tryz.func35 rfl rfl ?_
  repeat' first | refine st ?_ | refine sdRW [0, 1, 2, 3, 4, 5, 6, 7, 8, 9, 10, 11, 12, 13] H ?_ (hsub := by (repeat (first | exact SubM.nil | apply SubM.hole | (apply SubM.rw; rfl; (first | exact WkL.refl _ | exact WkL.ofEq (renL_map (fun _ => rfl) _).symm | exact WkL.ofEq (renL_flat _).symm | exact WkL.ofEq (ren_srcs hS (gOf_id rfl)).symm)) | (apply SubM.ro; rfl; (first | exact WkL.refl _ | exact WkL.ofEq (renL_map (fun _ => rfl) _).symm | exact WkL.ofEq (renL_flat _).symm | exact WkL.ofEq (ren_srcs hS (gOf_id rfl)).symm))))) | refine st (h := ok_makeFunc (by ((repeat (apply ArgsR.cons; rfl)); exact ArgsR.nil)) (by ((repeat (apply ArgsR.cons; rfl)); exact ArgsR.nil))) ?_ | refine stm ?_ | refine run_nil ?_ | refine sd ?_ | refine sdl ?_ | refine sdb ?_ | refine rund_nil ?_ | refine Jz ?_ | refine Jw ?_ | refine Jx (id := 2) [0,0,0,0,15,0,0,0,224,511,1023] 9 ?_ | refine aw_ret ?_
  all_goals exact pm_ret _ (renumD [0, 1, 2, 3, 4, 5, 6, 7, 8, 9, 10, 11, 12, 13, 14] (h4 := (by (repeat (first | exact MemD.nil | apply MemD.hole | (apply MemD.blk; rfl; (first | exact WkL.refl _ | exact WkL.ofEq (renL_map (fun _ => rfl) _).symm | exact WkL.ofEq (renL_flat _).symm | exact WkL.ofEq (ren_srcs hS (gOf_id rfl)).symm); rfl)))))) rfl
set_option maxHeartbeats 8000000 in
theorem ac_acheck (N : List P2) (Pw : List Int) (L : List Wl) (n p w : Nat) (hn : N.length = n) (hp : Pw.length = p) (hw : L.length = w) (hb : n ≤ 1000000 ∧ p ≤ 1000000 ∧ w ≤ 1000000) (ex no th : Int) (S : List Sr) (F : List Fd) (ns nf : Nat) (hns : S.length = ns) (hnf : F.length = nf) (hS : S.length ≤ 8) (hbf : nf ≤ 1000000) (hch : chsL S) (E : List Em) (ne : Nat) (hne : E.length = ne) (hbe : ne ≤ 1000000) (hv : airE N Pw L ex no th S F E = 0) (i0 : Nat) (hi0 : i0 < ne) : ACalls Tryz.prog 25 [.agg #[.slice (some ⟨0, 0, none⟩) n n, .slice (some ⟨1, 0, none⟩) p p, .slice (some ⟨2, 0, none⟩) w w, .int .i64 ex, .int .i64 no, .int .i64 th], .agg #[.slice (some ⟨3, 0, none⟩) ns ns, .slice (some ⟨4, 0, none⟩) nf nf], .slice (some ⟨13, 0, none⟩) ne ne, .int .i64 i0, .int .i64 0] [some ⟨N.flatMap ptC, false, 1⟩, some ⟨List.map (Value.int .i64) Pw, false, 1⟩, some ⟨L.flatMap wlC, false, 1⟩, some ⟨srcs S, false, 1⟩, some ⟨F.flatMap fdC, false, 1⟩, chB S 0, chB S 1, chB S 2, chB S 3, chB S 4, chB S 5, chB S 6, chB S 7, some ⟨E.flatMap emC, false, 4⟩] (.tuple #[.agg #[.slice (some ⟨0, 0, none⟩) n n, .slice (some ⟨1, 0, none⟩) p p, .slice (some ⟨2, 0, none⟩) w w, .int .i64 ex, .int .i64 no, .int .i64 th, .slice (some ⟨3, 0, none⟩) ns ns, .slice (some ⟨4, 0, none⟩) nf nf, .slice (some ⟨13, 0, none⟩) ne ne, .func (.func 66) #[] #[.pointer (some ⟨14, 0, none⟩)]], .int .i64 0]) [none, none, none, none, none, none, none, none, none, none, none, none, none, none, some ⟨[.slice (some ⟨0, 0, none⟩) n n, .slice (some ⟨1, 0, none⟩) p p, .slice (some ⟨2, 0, none⟩) w w, .int .i64 ex, .int .i64 no, .int .i64 th], true, 1⟩] := by
  have H := ac_build N Pw L n p w hn hp hw hb ex no th S F ns nf hns hnf hS hbf hch E ne hne hbe hv
  have h2 : 2 ≤ n := by rw [← hn]; exact (site_ok (air_ok hv).1).2.1
  clear hv
  refine acalls_of_aw Tryz.func25 rfl rfl ?_
  repeat' first | refine st ?_ | refine stMW [0, 1, 2, 3, 4, 5, 6, 7, 8, 9, 10, 11, 12, 13] H ?_ (hsub := by (repeat (first | exact SubM.nil | apply SubM.hole | (apply SubM.rw; rfl; (first | exact WkL.refl _ | exact WkL.ofEq (renL_map (fun _ => rfl) _).symm | exact WkL.ofEq (renL_flat _).symm | exact WkL.ofEq (ren_srcs hS (gOf_id rfl)).symm)) | (apply SubM.ro; rfl; (first | exact WkL.refl _ | exact WkL.ofEq (renL_map (fun _ => rfl) _).symm | exact WkL.ofEq (renL_flat _).symm | exact WkL.ofEq (ren_srcs hS (gOf_id rfl)).symm))))) | refine stm ?_ | refine Ja ?_ | refine Jf ?_ | refine run_nil ?_ | refine Jz ?_ | refine Jw ?_ | refine aw_block ?_ | refine Jr ?_ | refine Jt ?_ | refine Jy ?_ | refine aw_ret ?_
  all_goals first | exact pm_ret _ (renumD [0, 1, 2, 3, 4, 5, 6, 7, 8, 9, 10, 11, 12, 13, 17] (h4 := (by (repeat (first | exact MemD.nil | apply MemD.hole | (apply MemD.blk; rfl; (first | exact WkL.refl _ | exact WkL.ofEq (renL_map (fun _ => rfl) _).symm | exact WkL.ofEq (renL_flat _).symm | exact WkL.ofEq (ren_srcs hS (gOf_id rfl)).symm); rfl)))))) rfl
end Go.Proofs.YtdenooeaiicheaaGreat
namespace Go.Proofs.YtdenooeaiicheaaGreat
open Go Av
set_option maxRecDepth 20000
/-- The nodes that receive an emission. -/
def rcL (ex no th : Int) (N : List P2) (Pw : List Int) (L : List Wl) (S : List Sr) (F : List Fd) (E : List Em) (i0 : Nat) (e : Em) (n : Nat) : List Int := ((List.range n).filter fun nd => rcB ex no th N Pw L S F E i0 e nd).map fun (k : Nat) => (k : Int)
theorem rcL_succ (ex no th : Int) (N : List P2) (Pw : List Int) (L : List Wl) (S : List Sr) (F : List Fd) (E : List Em) (i0 : Nat) (e : Em) (n : Nat) : rcL ex no th N Pw L S F E i0 e (n + 1) = rcL ex no th N Pw L S F E i0 e n ++ (if rcB ex no th N Pw L S F E i0 e n then [(n : Int)] else []) := by
  unfold rcL
  rw [List.range_succ, List.filter_append, List.map_append]
  congr 1
  cases h : rcB ex no th N Pw L S F E i0 e n
  · simp [h]
  · simp [h]
structure Oc where
  i : Nat
  k : Nat
  l : List Int
set_option maxHeartbeats 16000000 in
theorem ac_Receivers (N : List P2) (Pw : List Int) (L : List Wl) (n p w : Nat) (hn : N.length = n) (hp : Pw.length = p) (hw : L.length = w) (hb : n ≤ 1000000 ∧ p ≤ 1000000 ∧ w ≤ 1000000) (ex no th : Int) (S : List Sr) (F : List Fd) (ns nf : Nat) (hns : S.length = ns) (hnf : F.length = nf) (hS : S.length ≤ 8) (hbf : nf ≤ 1000000) (hch : chsL S) (E : List Em) (ne : Nat) (hne : E.length = ne) (hbe : ne ≤ 1000000) (hv : airE N Pw L ex no th S F E = 0) (i0 : Nat) (n0 c0 f0 t0 : Int) (hq0 : E[i0]? = some ⟨n0, c0, f0, t0⟩) (r : List Int) (hr : rcL ex no th N Pw L S F E i0 ⟨n0, c0, f0, t0⟩ n = r) (k0 : Nat) (hk0 : r.length = k0) :
    ACalls Tryz.prog 9 [.agg #[.slice (some ⟨0, 0, none⟩) n n, .slice (some ⟨1, 0, none⟩) p p, .slice (some ⟨2, 0, none⟩) w w, .int .i64 ex, .int .i64 no, .int .i64 th], .agg #[.slice (some ⟨3, 0, none⟩) ns ns, .slice (some ⟨4, 0, none⟩) nf nf], .slice (some ⟨13, 0, none⟩) ne ne, .int .i64 i0] [some ⟨N.flatMap ptC, false, 1⟩, some ⟨List.map (Value.int .i64) Pw, false, 1⟩, some ⟨L.flatMap wlC, false, 1⟩, some ⟨srcs S, false, 1⟩, some ⟨F.flatMap fdC, false, 1⟩, chB S 0, chB S 1, chB S 2, chB S 3, chB S 4, chB S 5, chB S 6, chB S 7, some ⟨E.flatMap emC, false, 4⟩] (.tuple #[.slice (some ⟨14, 0, none⟩) k0 k0, .int .i64 0]) [none, none, none, none, none, none, none, none, none, none, none, none, none, none, some ⟨List.map (Value.int .i64) r, true, 1⟩] := by
  have hi0 : i0 < ne := by rw [← hne]; exact (List.getElem?_eq_some_iff.1 hq0).1
  have H := ac_acheck N Pw L n p w hn hp hw hb ex no th S F ns nf hns hnf hS hbf hch E ne hne hbe hv i0 hi0
  obtain ⟨hok, hsp, h48, _⟩ := air_ok hv
  have hem := air_em hv
  rw [hn] at hem
  obtain ⟨_, s2, s3, _⟩ := site_ok hok
  clear hv
  refine acalls_of_aw Tryz.func9 rfl rfl ?_
  refine aw_ghost 1 rfl ?_
  repeat' first | refine st ?_ | refine stMW [0, 1, 2, 3, 4, 5, 6, 7, 8, 9, 10, 11, 12, 13] H ?_ (hsub := by (repeat (first | exact SubM.nil | apply SubM.hole | (apply SubM.rw; rfl; (first | exact WkL.refl _ | exact WkL.ofEq (renL_map (fun _ => rfl) _).symm | exact WkL.ofEq (renL_flat _).symm | exact WkL.ofEq (ren_srcs hS (gOf_id rfl)).symm)) | (apply SubM.ro; rfl; (first | exact WkL.refl _ | exact WkL.ofEq (renL_map (fun _ => rfl) _).symm | exact WkL.ofEq (renL_flat _).symm | exact WkL.ofEq (ren_srcs hS (gOf_id rfl)).symm))))) | refine stm ?_ | refine run_nil ?_ | refine Jz ?_ | refine Jw ?_ | refine aw_block ?_ | refine Jr ?_ | refine Jy ?_
  refine aw_loopg
    (S := fun y : Oc => [(3, .int .i64 i0), (10, .pointer (some ⟨18, 0, none⟩)), (12, .slice (some ⟨14, 0, none⟩) y.k y.k), (27, .int .i64 n), (28, .int .i64 y.i)])
    (B := fun y : Oc => [some ⟨N.flatMap ptC, false, 1⟩, some ⟨List.map (Value.int .i64) Pw, false, 1⟩, some ⟨L.flatMap wlC, false, 1⟩, some ⟨srcs S, false, 1⟩, some ⟨F.flatMap fdC, false, 1⟩, chB S 0, chB S 1, chB S 2, chB S 3, chB S 4, chB S 5, chB S 6, chB S 7, some ⟨E.flatMap emC, false, 4⟩, some ⟨List.map (Value.int .i64) y.l, true, 1⟩, some ⟨[.slice (some ⟨0, 0, none⟩) n n, .slice (some ⟨1, 0, none⟩) p p, .slice (some ⟨2, 0, none⟩) w w, .int .i64 ex, .int .i64 no, .int .i64 th], true, 1⟩, some ⟨[.slice (some ⟨3, 0, none⟩) ns ns, .slice (some ⟨4, 0, none⟩) nf nf], true, 1⟩, some ⟨[.slice (some ⟨0, 0, none⟩) n n, .slice (some ⟨1, 0, none⟩) p p, .slice (some ⟨2, 0, none⟩) w w, .int .i64 ex, .int .i64 no, .int .i64 th], true, 1⟩, some ⟨[.slice (some ⟨0, 0, none⟩) n n, .slice (some ⟨1, 0, none⟩) p p, .slice (some ⟨2, 0, none⟩) w w, .int .i64 ex, .int .i64 no, .int .i64 th, .slice (some ⟨3, 0, none⟩) ns ns, .slice (some ⟨4, 0, none⟩) nf nf, .slice (some ⟨13, 0, none⟩) ne ne, .func (.func 66) #[] #[.pointer (some ⟨17, 0, none⟩)]], true, 1⟩])
    (R := fun y : Oc => y.i ≤ n ∧ y.l.length = y.k ∧ y.l = rcL ex no th N Pw L S F E i0 ⟨n0, c0, f0, t0⟩ y.i)
    (μ := fun y : Oc => n - y.i) ⟨0, 0, []⟩ (fitsD [0, 1, 2, 3, 4, 5, 6, 7, 8, 9, 10, 11, 12, 13, 14, 15, 16, 17, 18] (h4 := (by (repeat (first | exact MemD.nil | apply MemD.hole | (apply MemD.blk; rfl; (first | exact WkL.refl _ | exact WkL.ofEq (renL_map (fun _ => rfl) _).symm | exact WkL.ofEq (renL_flat _).symm | exact WkL.ofEq (ren_srcs hS (gOf_id rfl)).symm); rfl)))))) ⟨Nat.zero_le _, rfl, rfl⟩ ?_
  clear H
  rintro ⟨i, k, Li⟩ ⟨g1, g2, g3⟩
  dsimp only at *
  by_cases hi : i < n
  · have hst := rcL_succ ex no th N Pw L S F E i0 ⟨n0, c0, f0, t0⟩ i
    obtain ⟨y, hy⟩ : ∃ y, rcB ex no th N Pw L S F E i0 ⟨n0, c0, f0, t0⟩ i = y := ⟨_, rfl⟩
    have H := ac_rec N Pw L n p w hn hp hw hb ex no th hok S F ns nf hns hnf hS hbf hch hsp E ne hne (by omega) hem i0 n0 c0 f0 t0 hq0 i hi y hy
    rw [hy, ← g3] at hst
    have hk : k ≤ 32 := by
      rw [← g2, g3]
      unfold rcL
      rw [List.length_map]
      exact Nat.le_trans (List.length_filter_le _ _) (by rw [List.length_range]; omega)
    clear hr hk0 g3 hy
    cases y
    · rw [if_neg (by decide), List.append_nil] at hst
      repeat' first | refine st ?_ | refine stRW [0, 1, 2, 3, 4, 5, 6, 7, 8, 9, 10, 11, 12, 13, 17] H ?_ (hsub := by (repeat (first | exact SubM.nil | apply SubM.hole | (apply SubM.rw; rfl; (first | exact WkL.refl _ | exact WkL.ofEq (renL_map (fun _ => rfl) _).symm | exact WkL.ofEq (renL_flat _).symm | exact WkL.ofEq (ren_srcs hS (gOf_id rfl)).symm)) | (apply SubM.ro; rfl; (first | exact WkL.refl _ | exact WkL.ofEq (renL_map (fun _ => rfl) _).symm | exact WkL.ofEq (renL_flat _).symm | exact WkL.ofEq (ren_srcs hS (gOf_id rfl)).symm))))) | refine run_nil ?_ | refine Jz ?_ | refine Jw ?_ | refine aw_block ?_ | refine Jr ?_ | refine Js ?_ | refine Jy ?_
      all_goals first | exact Exists.intro ⟨i + 1, k, Li⟩ ⟨fitsD [0, 1, 2, 3, 4, 5, 6, 7, 8, 9, 10, 11, 12, 13, 14, 15, 16, 17, 18] (h4 := (by (repeat (first | exact MemD.nil | apply MemD.hole | (apply MemD.blk; rfl; (first | exact WkL.refl _ | exact WkL.ofEq (renL_map (fun _ => rfl) _).symm | exact WkL.ofEq (renL_flat _).symm | exact WkL.ofEq (ren_srcs hS (gOf_id rfl)).symm); rfl))))), ⟨hi, g2, hst.symm⟩, by dsimp only; omega⟩
    · rw [if_pos rfl] at hst
      repeat' first | refine stm (h := by (apply ok_append (cs := List.map (Value.int .i64) (Li ++ [(i : Int)])) (olds := List.map (Value.int .i64) Li); rfl; rfl; rfl; rfl; rfl; rfl; (focus (apply Src.slc; rfl; exact Ty.eq; rfl; exact Nat.le_of_ble_eq_true rfl; exact TakeR.eq (by ((repeat constructor); first | done | fail)); rfl; rfl)); (focus (simp; omega)); (focus (apply take_full; simp; omega)); (focus (rw [List.map_append]; rfl)); omega; (focus ((repeat constructor); first | done | fail)))) ?_ | refine st ?_ | refine stRW [0, 1, 2, 3, 4, 5, 6, 7, 8, 9, 10, 11, 12, 13, 17] H ?_ (hsub := by (repeat (first | exact SubM.nil | apply SubM.hole | (apply SubM.rw; rfl; (first | exact WkL.refl _ | exact WkL.ofEq (renL_map (fun _ => rfl) _).symm | exact WkL.ofEq (renL_flat _).symm | exact WkL.ofEq (ren_srcs hS (gOf_id rfl)).symm)) | (apply SubM.ro; rfl; (first | exact WkL.refl _ | exact WkL.ofEq (renL_map (fun _ => rfl) _).symm | exact WkL.ofEq (renL_flat _).symm | exact WkL.ofEq (ren_srcs hS (gOf_id rfl)).symm))))) | refine stm ?_ | refine run_nil ?_ | refine Jz ?_ | refine Jw ?_ | refine aw_block ?_ | refine Jq ?_ | refine Js ?_ | refine Jy ?_
      all_goals first | exact Exists.intro ⟨i + 1, k + 1, Li ++ [(i : Int)]⟩ ⟨fitsD [0, 1, 2, 3, 4, 5, 6, 7, 8, 9, 10, 11, 12, 13, 20, 15, 16, 17, 18] (h4 := (by (repeat (first | exact MemD.nil | apply MemD.hole | (apply MemD.blk; rfl; (first | exact WkL.refl _ | exact WkL.ofEq (renL_map (fun _ => rfl) _).symm | exact WkL.ofEq (renL_flat _).symm | exact WkL.ofEq (ren_srcs hS (gOf_id rfl)).symm); rfl))))), ⟨hi, by rw [List.length_append, g2]; rfl, hst.symm⟩, by dsimp only; omega⟩
  · obtain rfl : i = n := by omega
    rw [hr] at g3
    subst g3
    obtain rfl : k = k0 := by omega
    repeat' first | refine st ?_ | refine run_nil ?_ | refine Jz ?_ | refine Jw ?_ | refine Jt ?_ | refine aw_exit ?_ | refine aw_ret ?_
    all_goals first | exact pm_ret _ (renumD [0, 1, 2, 3, 4, 5, 6, 7, 8, 9, 10, 11, 12, 13, 14] (h4 := (by (repeat (first | exact MemD.nil | apply MemD.hole | (apply MemD.blk; rfl; (first | exact WkL.refl _ | exact WkL.ofEq (renL_map (fun _ => rfl) _).symm | exact WkL.ofEq (renL_flat _).symm | exact WkL.ofEq (ren_srcs hS (gOf_id rfl)).symm); rfl)))))) rfl
end Go.Proofs.YtdenooeaiicheaaGreat
