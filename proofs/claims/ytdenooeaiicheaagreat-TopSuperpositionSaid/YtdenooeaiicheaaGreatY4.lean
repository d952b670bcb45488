/- Air: Check. -/
import Derived.Test.YtdenooeaiicheaaGreatVL
import Derived.Test.YtdenooeaiicheaaGreatY1
set_option linter.unusedVariables false
set_option linter.unusedSimpArgs false
namespace Go.Proofs.YtdenooeaiicheaaGreat
open Go Av
set_option maxRecDepth 20000
/-- The first error of an emission by itself. -/
def emE (n : Int) (a : Em) : Int := if 0 ≤ a.nd ∧ a.nd < n then (if (0 ≤ a.ch ∧ a.ch < 16) ∧ 0 ≤ a.fr ∧ a.fr < a.to' ∧ a.to' ≤ 1099511627776 then 0 else 2) else 7
def cfQ (a b : Em) : Bool := decide (b.nd = a.nd) && ovB a.fr a.to' b.fr b.to'
/-- The first error of an emission behind others. -/
def ckA (n : Int) (pre : List Em) (a : Em) : Int := if emE n a = 0 then (if fidx (cfQ a) pre = -1 then 0 else 16) else emE n a
def ckG (n : Int) (pre : List Em) : List Em → Int
  | [] => 0
  | a :: l => if ckA n pre a = 0 then ckG n (pre ++ [a]) l else ckA n pre a
/-- The error of a scene. -/
def airE (N : List P2) (Pw : List Int) (L : List Wl) (ex no th : Int) (S : List Sr) (F : List Fd) (E : List Em) : Int := if siteB N Pw L ex no th = true ∧ spB S F = true then (if E.length ≤ 48 then ckG N.length [] E else 8) else 1
set_option maxHeartbeats 64000000 in
theorem ac_airCheck (N : List P2) (Pw : List Int) (L : List Wl) (n p w : Nat) (hn : N.length = n) (hp : Pw.length = p) (hw : L.length = w) (hb : n ≤ 1000000 ∧ p ≤ 1000000 ∧ w ≤ 1000000) (ex no th : Int) (S : List Sr) (F : List Fd) (ns nf : Nat) (hns : S.length = ns) (hnf : F.length = nf) (hS : S.length ≤ 8) (hbf : nf ≤ 1000000) (hch : chsL S) (E : List Em) (ne : Nat) (hne : E.length = ne) (hbe : ne ≤ 1000000) (v : Int) (hv : airE N Pw L ex no th S F E = v) :
    ACalls Tryz.prog 6 [.agg #[.slice (some ⟨0, 0, none⟩) n n, .slice (some ⟨1, 0, none⟩) p p, .slice (some ⟨2, 0, none⟩) w w, .int .i64 ex, .int .i64 no, .int .i64 th], .agg #[.slice (some ⟨3, 0, none⟩) ns ns, .slice (some ⟨4, 0, none⟩) nf nf], .slice (some ⟨13, 0, none⟩) ne ne] [some ⟨N.flatMap ptC, false, 1⟩, some ⟨List.map (Value.int .i64) Pw, false, 1⟩, some ⟨L.flatMap wlC, false, 1⟩, some ⟨srcs S, false, 1⟩, some ⟨F.flatMap fdC, false, 1⟩, chB S 0, chB S 1, chB S 2, chB S 3, chB S 4, chB S 5, chB S 6, chB S 7, some ⟨E.flatMap emC, false, 4⟩] (.int .i64 v) [none, none, none, none, none, none, none, none, none, none, none, none, none, none] := by
  obtain ⟨x1, k1⟩ : ∃ x, siteB N Pw L ex no th = x := ⟨_, rfl⟩
  obtain ⟨x2, k2⟩ : ∃ x, spB S F = x := ⟨_, rfl⟩
  have H1 := ac_site N Pw L n p w hn hp hw hb ex no th x1 k1
  have H2 := ac_spCheck S F ns nf hns hnf hS hbf hch x2 k2
  unfold airE at hv
  rw [k1, k2, hne, hn] at hv
  clear k1 k2
  cases x1
  · rw [if_neg (fun h => by cases h.1)] at hv
    subst hv
    refine acalls_law Tryz.func6 rfl rfl rfl ?_
    repeat' first | refine st ?_ | refine stRW [0, 1, 2] H1 ?_ | refine stm ?_ | refine Jb ?_ | refine run_nil ?_ | refine Jz ?_ | refine Jw ?_ | refine aw_block ?_ | refine Jq ?_ | refine aw_ret ?_ | refine pp_ret ?_
    all_goals first
      | rfl
      | (exfalso; omega)
      | (refine congrArg Value.bool ?_; first | exact decide_eq_true (by omega) | exact decide_eq_false (by omega) | exact (decide_eq_true (by omega)).symm | exact (decide_eq_false (by omega)).symm)
      | (show Value.bool _ = Value.bool _; congr 1; first | exact decide_eq_true (by omega) | exact decide_eq_false (by omega) | exact (decide_eq_true (by omega)).symm | exact (decide_eq_false (by omega)).symm)
      | (simp [retOf]; done)
  cases x2
  · rw [if_neg (by decide)] at hv
    subst hv
    refine acalls_law Tryz.func6 rfl rfl rfl ?_
    repeat' first | refine st ?_ | refine stRW [0, 1, 2] H1 ?_ | refine stRW [0, 1, 2, 3, 4, 5, 6, 7, 8, 9, 10, 11, 12] H2 ?_ (hsub := by (repeat (first | exact SubM.nil | apply SubM.hole | (apply SubM.rw; rfl; (first | exact WkL.refl _ | exact WkL.ofEq (renL_map (fun _ => rfl) _).symm | exact WkL.ofEq (renL_flat _).symm | exact WkL.ofEq (ren_srcs hS (gOf_id rfl)).symm)) | (apply SubM.ro; rfl; (first | exact WkL.refl _ | exact WkL.ofEq (renL_map (fun _ => rfl) _).symm | exact WkL.ofEq (renL_flat _).symm | exact WkL.ofEq (ren_srcs hS (gOf_id rfl)).symm))))) | refine stm ?_ | refine Ja ?_ | refine run_nil ?_ | refine Jz ?_ | refine Jw ?_ | refine aw_block ?_ | refine Jq ?_ | refine aw_ret ?_ | refine pp_ret ?_
    all_goals first
      | rfl
      | (exfalso; omega)
      | (refine congrArg Value.bool ?_; first | exact decide_eq_true (by omega) | exact decide_eq_false (by omega) | exact (decide_eq_true (by omega)).symm | exact (decide_eq_false (by omega)).symm)
      | (show Value.bool _ = Value.bool _; congr 1; first | exact decide_eq_true (by omega) | exact decide_eq_false (by omega) | exact (decide_eq_true (by omega)).symm | exact (decide_eq_false (by omega)).symm)
      | (simp [retOf]; done)
  rw [if_pos (by decide)] at hv
  by_cases h48 : ne ≤ 48
  rotate_left
  · rw [if_neg h48] at hv
    subst hv
    refine acalls_law Tryz.func6 rfl rfl rfl ?_
    repeat' first | refine st ?_ | refine stRW [0, 1, 2] H1 ?_ | refine stRW [0, 1, 2, 3, 4, 5, 6, 7, 8, 9, 10, 11, 12] H2 ?_ (hsub := by (repeat (first | exact SubM.nil | apply SubM.hole | (apply SubM.rw; rfl; (first | exact WkL.refl _ | exact WkL.ofEq (renL_map (fun _ => rfl) _).symm | exact WkL.ofEq (renL_flat _).symm | exact WkL.ofEq (ren_srcs hS (gOf_id rfl)).symm)) | (apply SubM.ro; rfl; (first | exact WkL.refl _ | exact WkL.ofEq (renL_map (fun _ => rfl) _).symm | exact WkL.ofEq (renL_flat _).symm | exact WkL.ofEq (ren_srcs hS (gOf_id rfl)).symm))))) | refine stm ?_ | refine Ja ?_ | refine run_nil ?_ | refine Jz ?_ | refine Jw ?_ | refine aw_block ?_ | refine Jr ?_ | refine Js ?_ | refine aw_ret ?_ | refine pp_ret ?_
    all_goals first
      | rfl
      | (exfalso; omega)
      | (refine congrArg Value.bool ?_; first | exact decide_eq_true (by omega) | exact decide_eq_false (by omega) | exact (decide_eq_true (by omega)).symm | exact (decide_eq_false (by omega)).symm)
      | (show Value.bool _ = Value.bool _; congr 1; first | exact decide_eq_true (by omega) | exact decide_eq_false (by omega) | exact (decide_eq_true (by omega)).symm | exact (decide_eq_false (by omega)).symm)
      | (simp [retOf]; done)
  rw [if_pos h48] at hv
  refine acalls_law Tryz.func6 rfl rfl rfl ?_
  repeat' first | refine st ?_ | refine stRW [0, 1, 2] H1 ?_ | refine stRW [0, 1, 2, 3, 4, 5, 6, 7, 8, 9, 10, 11, 12] H2 ?_ (hsub := by (repeat (first | exact SubM.nil | apply SubM.hole | (apply SubM.rw; rfl; (first | exact WkL.refl _ | exact WkL.ofEq (renL_map (fun _ => rfl) _).symm | exact WkL.ofEq (renL_flat _).symm | exact WkL.ofEq (ren_srcs hS (gOf_id rfl)).symm)) | (apply SubM.ro; rfl; (first | exact WkL.refl _ | exact WkL.ofEq (renL_map (fun _ => rfl) _).symm | exact WkL.ofEq (renL_flat _).symm | exact WkL.ofEq (ren_srcs hS (gOf_id rfl)).symm))))) | refine stm ?_ | refine Ja ?_ | refine run_nil ?_ | refine Jz ?_ | refine Jw ?_ | refine aw_block ?_ | refine Jr ?_ | refine Jt ?_ | refine Jy ?_
  refine aw_loopg
    (S := fun y : Og => [(2, .slice (some ⟨13, 0, none⟩) ne ne), (3, .pointer (some ⟨14, 0, none⟩)), (24, .slice (some ⟨13, 0, none⟩) ne ne), (25, .int .i64 ne), (26, .int .i64 y.i)]) (B := fun _ : Og => [some ⟨N.flatMap ptC, false, 1⟩, some ⟨List.map (Value.int .i64) Pw, false, 1⟩, some ⟨L.flatMap wlC, false, 1⟩, some ⟨srcs S, false, 1⟩, some ⟨F.flatMap fdC, false, 1⟩, chB S 0, chB S 1, chB S 2, chB S 3, chB S 4, chB S 5, chB S 6, chB S 7, some ⟨E.flatMap emC, false, 4⟩, some ⟨[.slice (some ⟨0, 0, none⟩) n n, .slice (some ⟨1, 0, none⟩) p p, .slice (some ⟨2, 0, none⟩) w w, .int .i64 ex, .int .i64 no, .int .i64 th], true, 1⟩, some ⟨[.slice (some ⟨3, 0, none⟩) ns ns, .slice (some ⟨4, 0, none⟩) nf nf], true, 1⟩])
    (R := fun y : Og => y.i ≤ ne ∧ ckG n (E.take y.i) (E.drop y.i) = v)
    (μ := fun y : Og => ne - y.i) ⟨0⟩ (fitsD [0, 1, 2, 3, 4, 5, 6, 7, 8, 9, 10, 11, 12, 13, 14, 15] (h4 := (by (repeat (first | exact MemD.nil | apply MemD.hole | (apply MemD.blk; rfl; (first | exact WkL.refl _ | exact WkL.ofEq (renL_map (fun _ => rfl) _).symm | exact WkL.ofEq (renL_flat _).symm | exact WkL.ofEq (ren_srcs hS (gOf_id rfl)).symm); rfl)))))) ⟨Nat.zero_le _, hv⟩ ?_
  clear hv
  rintro ⟨i⟩ ⟨g1, g2⟩
  dsimp only at *
  by_cases hi : i < ne
  rotate_left
  · obtain rfl : i = ne := by omega
    rw [← hne, List.drop_length] at g2
    obtain rfl : v = 0 := g2.symm
    clear g1
    repeat' first | refine st ?_ | refine run_nil ?_ | refine Jz ?_ | refine Jw ?_ | refine Jt ?_ | refine aw_exit ?_ | refine aw_ret ?_ | refine pp_ret ?_
    all_goals first
      | rfl
      | (exfalso; omega)
      | (refine congrArg Value.bool ?_; first | exact decide_eq_true (by omega) | exact decide_eq_false (by omega) | exact (decide_eq_true (by omega)).symm | exact (decide_eq_false (by omega)).symm)
      | (show Value.bool _ = Value.bool _; congr 1; first | exact decide_eq_true (by omega) | exact decide_eq_false (by omega) | exact (decide_eq_true (by omega)).symm | exact (decide_eq_false (by omega)).symm)
      | (simp [retOf]; done)
  obtain ⟨⟨n0, c0, f0, t0⟩, hq⟩ : ∃ q, E[i]? = some q := ⟨_, List.getElem?_eq_getElem (by omega)⟩
  rw [drop_one hq, ckG, ← take_one hq] at g2
  by_cases e1 : 0 ≤ n0 ∧ n0 < n
  rotate_left
  · have he : emE n ⟨n0, c0, f0, t0⟩ = 7 := if_neg e1
    rw [show ckA n (E.take i) ⟨n0, c0, f0, t0⟩ = 7 by unfold ckA; rw [he]; rfl, if_neg (by decide)] at g2
    subst g2
    clear he
    repeat' first | intro h1 | refine st (h := ok_load_rowsE (f := emC) (cs := [.int .i64 n0, .int .i64 c0, .int .i64 f0, .int .i64 t0]) i (fun _ => rfl) hq rfl rfl rfl rfl (by omega)) ?_ | refine st ?_ | refine stm ?_ | refine Ja ?_ | refine Jb ?_ | refine Ji ?_ ?_ | refine run_nil ?_ | refine Jz ?_ | refine Jw ?_ | refine aw_block ?_ | refine Jq ?_ | refine Js ?_ | refine Jy ?_ | refine aw_ret ?_ | refine pp_ret ?_
    all_goals first
      | rfl
      | (exfalso; omega)
      | (refine congrArg Value.bool ?_; first | exact decide_eq_true (by omega) | exact decide_eq_false (by omega) | exact (decide_eq_true (by omega)).symm | exact (decide_eq_false (by omega)).symm)
      | (show Value.bool _ = Value.bool _; congr 1; first | exact decide_eq_true (by omega) | exact decide_eq_false (by omega) | exact (decide_eq_true (by omega)).symm | exact (decide_eq_false (by omega)).symm)
      | (simp [retOf]; done)
  by_cases e2 : (0 ≤ c0 ∧ c0 < 16) ∧ 0 ≤ f0 ∧ f0 < t0 ∧ t0 ≤ 1099511627776
  rotate_left
  · have he : emE n ⟨n0, c0, f0, t0⟩ = 2 := (if_pos e1).trans (if_neg e2)
    rw [show ckA n (E.take i) ⟨n0, c0, f0, t0⟩ = 2 by unfold ckA; rw [he]; rfl, if_neg (by decide)] at g2
    subst g2
    clear he
    repeat' first | intro h1 | refine st (h := ok_load_rowsE (f := emC) (cs := [.int .i64 n0, .int .i64 c0, .int .i64 f0, .int .i64 t0]) i (fun _ => rfl) hq rfl rfl rfl rfl (by omega)) ?_ | refine st ?_ | refine stm ?_ | refine Ja ?_ | refine Jb ?_ | refine Jf ?_ | refine Ji ?_ ?_ | refine run_nil ?_ | refine Jz ?_ | refine Jw ?_ | refine aw_block ?_ | refine Jq ?_ | refine Js ?_ | refine Jt ?_ | refine Jy ?_ | refine aw_ret ?_ | refine pp_ret ?_
    all_goals first
      | rfl
      | (exfalso; omega)
      | (refine congrArg Value.bool ?_; first | exact decide_eq_true (by omega) | exact decide_eq_false (by omega) | exact (decide_eq_true (by omega)).symm | exact (decide_eq_false (by omega)).symm)
      | (show Value.bool _ = Value.bool _; congr 1; first | exact decide_eq_true (by omega) | exact decide_eq_false (by omega) | exact (decide_eq_true (by omega)).symm | exact (decide_eq_false (by omega)).symm)
      | (simp [retOf]; done)
  have he : emE n ⟨n0, c0, f0, t0⟩ = 0 := (if_pos e1).trans (if_pos e2)
  have hck : ckA n (E.take i) ⟨n0, c0, f0, t0⟩ = if fidx (cfQ ⟨n0, c0, f0, t0⟩) (E.take i) = -1 then 0 else 16 := by unfold ckA; rw [if_pos he]
  rw [hck] at g2
  clear he hck
  repeat' first | refine st (h := ok_load_rowsE (f := emC) (cs := [.int .i64 n0, .int .i64 c0, .int .i64 f0, .int .i64 t0]) i (fun _ => rfl) hq rfl rfl rfl rfl (by omega)) ?_ | refine st ?_ | refine stm ?_ | refine Ja ?_ | refine Jf ?_ | refine run_nil ?_ | refine Jz ?_ | refine Jw ?_ | refine aw_block ?_ | refine Js ?_ | refine Jt ?_ | refine Jy ?_
  refine aw_loopg
    (S := fun y : Og => [(2, .slice (some ⟨13, 0, none⟩) ne ne), (3, .pointer (some ⟨14, 0, none⟩)), (24, .slice (some ⟨13, 0, none⟩) ne ne), (25, .int .i64 ne), (26, .int .i64 i), (8, .pointer (some ⟨16, 0, none⟩)), (71, .slice (some ⟨13, 0, none⟩) i i), (72, .int .i64 i), (73, .int .i64 y.i)]) (B := fun _ : Og => [some ⟨N.flatMap ptC, false, 1⟩, some ⟨List.map (Value.int .i64) Pw, false, 1⟩, some ⟨L.flatMap wlC, false, 1⟩, some ⟨srcs S, false, 1⟩, some ⟨F.flatMap fdC, false, 1⟩, chB S 0, chB S 1, chB S 2, chB S 3, chB S 4, chB S 5, chB S 6, chB S 7, some ⟨E.flatMap emC, false, 4⟩, some ⟨[.slice (some ⟨0, 0, none⟩) n n, .slice (some ⟨1, 0, none⟩) p p, .slice (some ⟨2, 0, none⟩) w w, .int .i64 ex, .int .i64 no, .int .i64 th], true, 1⟩, some ⟨[.slice (some ⟨3, 0, none⟩) ns ns, .slice (some ⟨4, 0, none⟩) nf nf], true, 1⟩, some ⟨[.int .i64 n0, .int .i64 c0, .int .i64 f0, .int .i64 t0], true, 1⟩])
    (R := fun y : Og => y.i ≤ i ∧ ∀ (j : Nat), j < y.i → ∀ q, (E.take i)[j]? = some q → cfQ ⟨n0, c0, f0, t0⟩ q = false)
    (μ := fun y : Og => i - y.i) ⟨0⟩ (fitsD [0, 1, 2, 3, 4, 5, 6, 7, 8, 9, 10, 11, 12, 13, 14, 15, 16] (h4 := (by (repeat (first | exact MemD.nil | apply MemD.hole | (apply MemD.blk; rfl; (first | exact WkL.refl _ | exact WkL.ofEq (renL_map (fun _ => rfl) _).symm | exact WkL.ofEq (renL_flat _).symm | exact WkL.ofEq (ren_srcs hS (gOf_id rfl)).symm); rfl)))))) ⟨Nat.zero_le _, fun j hj => absurd hj (Nat.not_lt_zero _)⟩ ?_
  clear e1 e2
  rintro ⟨j⟩ ⟨w1, w2⟩
  dsimp only at *
  by_cases hj : j < i
  rotate_left
  · obtain rfl : j = i := by omega
    rw [if_pos (show fidx (cfQ ⟨n0, c0, f0, t0⟩) (E.take j) = -1 from fidx_no (by rw [List.length_take]; intro j' hj'; exact w2 j' (by omega))), if_pos rfl] at g2
    clear w2 w1
    repeat' first | refine st ?_ | refine run_nil ?_ | refine Jz ?_ | refine Jw ?_ | refine Jt ?_ | refine aw_exit ?_
    all_goals first | exact Exists.intro ⟨j + 1⟩ ⟨fitsD [0, 1, 2, 3, 4, 5, 6, 7, 8, 9, 10, 11, 12, 13, 14, 15] (h4 := (by (repeat (first | exact MemD.nil | apply MemD.hole | (apply MemD.blk; rfl; (first | exact WkL.refl _ | exact WkL.ofEq (renL_map (fun _ => rfl) _).symm | exact WkL.ofEq (renL_flat _).symm | exact WkL.ofEq (ren_srcs hS (gOf_id rfl)).symm); rfl))))), ⟨hi, g2⟩, by dsimp only; omega⟩
  obtain ⟨⟨n1, c1, f1, t1⟩, hq1⟩ : ∃ q, E[j]? = some q := ⟨_, List.getElem?_eq_getElem (by omega)⟩
  have hq1' : (E.take i)[j]? = some ⟨n1, c1, f1, t1⟩ := by rw [List.getElem?_take, if_pos hj]; exact hq1
  obtain ⟨y, hy⟩ : ∃ y, ovB f0 t0 f1 t1 = y := ⟨_, rfl⟩
  have H := ac_ov n0 c0 f0 t0 n1 c1 f1 t1 y hy
  by_cases hn1 : n1 = n0
  · subst hn1
    have hqq : cfQ ⟨n1, c0, f0, t0⟩ ⟨n1, c1, f1, t1⟩ = y := by unfold cfQ; dsimp only; rw [hy, decide_eq_true rfl, Bool.true_and]
    cases y
    · have hst := no_step (q := cfQ ⟨n1, c0, f0, t0⟩) w2 hq1' hqq
      clear g2 w2 hqq hy hq1'
      repeat' first | refine st (h := ok_load_rowsE (f := emC) (cs := [.int .i64 n1, .int .i64 c1, .int .i64 f1, .int .i64 t1]) j (fun _ => rfl) hq1 rfl rfl rfl rfl (by omega)) ?_ | refine st ?_ | refine st_call (H) ?_ | refine stm ?_ | refine Ja ?_ | refine Jd ?_ | refine run_nil ?_ | refine Jz ?_ | refine Jw ?_ | refine aw_block ?_ | refine Jr ?_ | refine Js ?_ | refine Jy ?_
      all_goals first | exact Exists.intro ⟨j + 1⟩ ⟨fitsD [0, 1, 2, 3, 4, 5, 6, 7, 8, 9, 10, 11, 12, 13, 14, 15, 16] (h4 := (by (repeat (first | exact MemD.nil | apply MemD.hole | (apply MemD.blk; rfl; (first | exact WkL.refl _ | exact WkL.ofEq (renL_map (fun _ => rfl) _).symm | exact WkL.ofEq (renL_flat _).symm | exact WkL.ofEq (ren_srcs hS (gOf_id rfl)).symm); rfl))))), ⟨hj, hst⟩, by dsimp only; omega⟩
    · have hf := fidx_at (q := cfQ ⟨n1, c0, f0, t0⟩) hq1' hqq w2
      rw [if_neg (show ¬ fidx (cfQ ⟨n1, c0, f0, t0⟩) (E.take i) = -1 by rw [hf]; omega), if_neg (by decide)] at g2
      subst g2
      clear w2 hqq hy hq1' hf
      repeat' first | refine st (h := ok_load_rowsE (f := emC) (cs := [.int .i64 n1, .int .i64 c1, .int .i64 f1, .int .i64 t1]) j (fun _ => rfl) hq1 rfl rfl rfl rfl (by omega)) ?_ | refine st ?_ | refine st_call (H) ?_ | refine stm ?_ | refine Ja ?_ | refine Jd ?_ | refine run_nil ?_ | refine Jz ?_ | refine Jw ?_ | refine aw_block ?_ | refine Jq ?_ | refine Js ?_ | refine Jy ?_ | refine aw_ret ?_ | refine pp_ret ?_
      all_goals first
        | rfl
        | (exfalso; omega)
        | (refine congrArg Value.bool ?_; first | exact decide_eq_true (by omega) | exact decide_eq_false (by omega) | exact (decide_eq_true (by omega)).symm | exact (decide_eq_false (by omega)).symm)
        | (show Value.bool _ = Value.bool _; congr 1; first | exact decide_eq_true (by omega) | exact decide_eq_false (by omega) | exact (decide_eq_true (by omega)).symm | exact (decide_eq_false (by omega)).symm)
        | (simp [retOf]; done)
  · have hqq : cfQ ⟨n0, c0, f0, t0⟩ ⟨n1, c1, f1, t1⟩ = false := by unfold cfQ; dsimp only; rw [decide_eq_false hn1, Bool.false_and]
    have hst := no_step (q := cfQ ⟨n0, c0, f0, t0⟩) w2 hq1' hqq
    clear g2 w2 hqq hy hq1'
    repeat' first | refine st (h := ok_load_rowsE (f := emC) (cs := [.int .i64 n1, .int .i64 c1, .int .i64 f1, .int .i64 t1]) j (fun _ => rfl) hq1 rfl rfl rfl rfl (by omega)) ?_ | refine st ?_ | refine stm ?_ | refine Jb ?_ | refine Je ?_ | refine run_nil ?_ | refine Jz ?_ | refine Jw ?_ | refine aw_block ?_ | refine Jr ?_ | refine Js ?_ | refine Jy ?_
    all_goals first | exact Exists.intro ⟨j + 1⟩ ⟨fitsD [0, 1, 2, 3, 4, 5, 6, 7, 8, 9, 10, 11, 12, 13, 14, 15, 16] (h4 := (by (repeat (first | exact MemD.nil | apply MemD.hole | (apply MemD.blk; rfl; (first | exact WkL.refl _ | exact WkL.ofEq (renL_map (fun _ => rfl) _).symm | exact WkL.ofEq (renL_flat _).symm | exact WkL.ofEq (ren_srcs hS (gOf_id rfl)).symm); rfl))))), ⟨hj, hst⟩, by dsimp only; omega⟩
end Go.Proofs.YtdenooeaiicheaaGreat
