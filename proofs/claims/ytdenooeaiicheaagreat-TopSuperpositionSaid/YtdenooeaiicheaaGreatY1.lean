/- Air: the parts of a scene. -/
import Derived.Test.YtdenooeaiicheaaGreatVL
import Derived.Test.YtdenooeaiicheaaGreatU7
import Derived.Test.YtdenooeaiicheaaGreatT3
set_option linter.unusedVariables false
set_option linter.unusedSimpArgs false
namespace Go.Proofs.YtdenooeaiicheaaGreat
open Go Av
set_option maxRecDepth 20000
theorem ac_heard (n p w : Nat) (ex no th q i : Int) (x : Bool) (hx : decide (i ≤ mrgI q th no) = x) : ACalls Tryz.prog 66 [.int .i64 q, .int .i64 i, .pointer (some ⟨3, 0, none⟩)] [none, none, none, some ⟨[.slice (some ⟨0, 0, none⟩) n n, .slice (some ⟨1, 0, none⟩) p p, .slice (some ⟨2, 0, none⟩) w w, .int .i64 ex, .int .i64 no, .int .i64 th], false, 1⟩] (.bool x) [none, none, none, none] := by
  obtain ⟨e, H⟩ := ac_margin q th no _ rfl
  obtain ⟨k, hk⟩ : ∃ k, mrgI q th no = k := ⟨_, rfl⟩
  rw [hk] at hx H
  clear hk
  refine acalls_law Tryz.func66 rfl rfl rfl ?_
  repeat' first | refine st ?_ | refine st_call (H) ?_ | refine run_nil ?_ | refine Jz ?_ | refine Jw ?_ | refine aw_ret ?_ | refine pp_ret ?_
  all_goals first
    | rfl
    | (exfalso; omega)
    | (rw [← hx]; refine congrArg Value.bool ?_; first | exact (decide_eq_true (by omega)).symm | exact (decide_eq_false (by omega)).symm | exact decide_eq_decide.2 (by omega))
    | (rw [← hx]; show Value.bool _ = Value.bool _; congr 1; first | exact (decide_eq_true (by omega)).symm | exact (decide_eq_false (by omega)).symm | exact decide_eq_decide.2 (by omega))
    | (exfalso; simp only [Bool.not_eq_true', Bool.not_eq_false', decide_eq_true_eq, decide_eq_false_iff_not, Bool.not_false, Bool.not_true] at *; omega)
    | (simp [retOf]; done)
set_option maxHeartbeats 8000000 in
theorem ac_sig (N : List P2) (Pw : List Int) (L : List Wl) (n p w : Nat) (hn : N.length = n) (hp : Pw.length = p) (hw : L.length = w) (hb : n ≤ 1000000 ∧ p ≤ 1000000 ∧ w ≤ 1000000) (ex no th : Int) (hok : siteB N Pw L ex no th = true) (S : List Sr) (F : List Fd) (ns nf : Nat) (hns : S.length = ns) (hnf : F.length = nf) (hS : S.length ≤ 8) (hbf : nf ≤ 1000000) (hch : chsL S) (hsp : spB S F = true) (ne a b : Nat) (hab : a < n ∧ b < n) (c0 f0 t0 : Int) (hc : 0 ≤ c0 ∧ c0 < 16) (hf : 0 ≤ f0 ∧ f0 ≤ 1099511627776) (v : Int) (hv : sgI ex N Pw L F a b c0 f0 = v) :
    ACalls Tryz.prog 52 [.agg #[.slice (some ⟨0, 0, none⟩) n n, .slice (some ⟨1, 0, none⟩) p p, .slice (some ⟨2, 0, none⟩) w w, .int .i64 ex, .int .i64 no, .int .i64 th, .slice (some ⟨3, 0, none⟩) ns ns, .slice (some ⟨4, 0, none⟩) nf nf, .slice (some ⟨13, 0, none⟩) ne ne, .func (.func 66) #[] #[.pointer (some ⟨14, 0, none⟩)]], .agg #[.int .i64 a, .int .i64 c0, .int .i64 f0, .int .i64 t0], .int .i64 b] [some ⟨N.flatMap ptC, false, 1⟩, some ⟨List.map (Value.int .i64) Pw, false, 1⟩, some ⟨L.flatMap wlC, false, 1⟩, some ⟨srcs S, false, 1⟩, some ⟨F.flatMap fdC, false, 1⟩, chB S 0, chB S 1, chB S 2, chB S 3, chB S 4, chB S 5, chB S 6, chB S 7, none, none] (.int .i64 v) [none, none, none, none, none, none, none, none, none, none, none, none, none, none, none] := by
  have H := ac_Signal N Pw L n p w hn hp hw hb ex no th hok S F ns nf hns hnf hS hbf hch hsp a b hab c0 f0 hc hf v _ hv rfl
  obtain ⟨e, he⟩ : ∃ e, sgE ex N Pw L F a b c0 f0 = e := ⟨_, rfl⟩
  rw [he] at H
  clear he hv
  refine acalls_law Tryz.func52 rfl rfl rfl ?_
  repeat' first | refine st ?_ | refine stRW [0, 1, 2, 3, 4, 5, 6, 7, 8, 9, 10, 11, 12] H ?_ (hsub := by (repeat (first | exact SubM.nil | apply SubM.hole | (apply SubM.rw; rfl; (first | exact WkL.refl _ | exact WkL.ofEq (renL_map (fun _ => rfl) _).symm | exact WkL.ofEq (renL_flat _).symm | exact WkL.ofEq (ren_srcs hS (gOf_id rfl)).symm)) | (apply SubM.ro; rfl; (first | exact WkL.refl _ | exact WkL.ofEq (renL_map (fun _ => rfl) _).symm | exact WkL.ofEq (renL_flat _).symm | exact WkL.ofEq (ren_srcs hS (gOf_id rfl)).symm))))) | refine stm ?_ | refine run_nil ?_ | refine Jz ?_ | refine Jw ?_ | refine aw_ret ?_ | refine pp_ret ?_
  all_goals first
    | rfl
    | (exfalso; omega)
    | (refine congrArg Value.bool ?_; first | exact decide_eq_true (by omega) | exact decide_eq_false (by omega) | exact (decide_eq_true (by omega)).symm | exact (decide_eq_false (by omega)).symm)
    | (show Value.bool _ = Value.bool _; congr 1; first | exact decide_eq_true (by omega) | exact decide_eq_false (by omega) | exact (decide_eq_true (by omega)).symm | exact (decide_eq_false (by omega)).symm)
    | (simp [retOf]; done)
set_option maxHeartbeats 8000000 in
theorem ac_ext (N : List P2) (Pw : List Int) (L : List Wl) (n p w : Nat) (hn : N.length = n) (hp : Pw.length = p) (hw : L.length = w) (hb : n ≤ 1000000 ∧ p ≤ 1000000 ∧ w ≤ 1000000) (ex no th : Int) (hok : siteB N Pw L ex no th = true) (S : List Sr) (F : List Fd) (ns nf : Nat) (hns : S.length = ns) (hnf : F.length = nf) (hS : S.length ≤ 8) (hbf : nf ≤ 1000000) (hch : chsL S) (hsp : spB S F = true) (E : List Em) (ne : Nat) (hne : E.length = ne) (hbe : ne ≤ 1000000) (i0 : Nat) (n0 c0 f0 t0 : Int) (hq0 : E[i0]? = some ⟨n0, c0, f0, t0⟩) (nd : Nat) (hnd : nd < n) (hc : 0 ≤ c0 ∧ c0 < 16) (hf : 0 ≤ f0 ∧ f0 ≤ t0 ∧ t0 ≤ 1099511627776) (v : Int) (hv : exI ex N L S nd c0 f0 t0 = v) :
    ACalls Tryz.prog 80 [.agg #[.slice (some ⟨0, 0, none⟩) n n, .slice (some ⟨1, 0, none⟩) p p, .slice (some ⟨2, 0, none⟩) w w, .int .i64 ex, .int .i64 no, .int .i64 th, .slice (some ⟨3, 0, none⟩) ns ns, .slice (some ⟨4, 0, none⟩) nf nf, .slice (some ⟨13, 0, none⟩) ne ne, .func (.func 66) #[] #[.pointer (some ⟨14, 0, none⟩)]], .int .i64 i0, .int .i64 nd] [some ⟨N.flatMap ptC, false, 1⟩, some ⟨List.map (Value.int .i64) Pw, false, 1⟩, some ⟨L.flatMap wlC, false, 1⟩, some ⟨srcs S, false, 1⟩, some ⟨F.flatMap fdC, false, 1⟩, chB S 0, chB S 1, chB S 2, chB S 3, chB S 4, chB S 5, chB S 6, chB S 7, some ⟨E.flatMap emC, false, 4⟩, none] (.int .i64 v) [none, none, none, none, none, none, none, none, none, none, none, none, none, none, none] := by
  have H := ac_External N Pw L n p w hn hp hw hb ex no th hok S F ns nf hns hnf hS hbf hch hsp nd hnd c0 f0 t0 hc hf v hv
  have hi0 : i0 < ne := by rw [← hne]; exact (List.getElem?_eq_some_iff.1 hq0).1
  clear hv
  refine acalls_law Tryz.func80 rfl rfl rfl ?_
  repeat' first | refine st (h := ok_load_rowsE (f := emC) (cs := [.int .i64 n0, .int .i64 c0, .int .i64 f0, .int .i64 t0]) i0 (fun _ => rfl) hq0 rfl rfl rfl rfl (by omega)) ?_ | refine st ?_ | refine stRW [0, 1, 2, 3, 4, 5, 6, 7, 8, 9, 10, 11, 12] H ?_ (hsub := by (repeat (first | exact SubM.nil | apply SubM.hole | (apply SubM.rw; rfl; (first | exact WkL.refl _ | exact WkL.ofEq (renL_map (fun _ => rfl) _).symm | exact WkL.ofEq (renL_flat _).symm | exact WkL.ofEq (ren_srcs hS (gOf_id rfl)).symm)) | (apply SubM.ro; rfl; (first | exact WkL.refl _ | exact WkL.ofEq (renL_map (fun _ => rfl) _).symm | exact WkL.ofEq (renL_flat _).symm | exact WkL.ofEq (ren_srcs hS (gOf_id rfl)).symm))))) | refine stm ?_ | refine run_nil ?_ | refine Jz ?_ | refine Jw ?_ | refine aw_ret ?_ | refine pp_ret ?_
  all_goals first
    | rfl
    | (exfalso; omega)
    | (refine congrArg Value.bool ?_; first | exact decide_eq_true (by omega) | exact decide_eq_false (by omega) | exact (decide_eq_true (by omega)).symm | exact (decide_eq_false (by omega)).symm)
    | (show Value.bool _ = Value.bool _; congr 1; first | exact decide_eq_true (by omega) | exact decide_eq_false (by omega) | exact (decide_eq_true (by omega)).symm | exact (decide_eq_false (by omega)).symm)
    | (simp [retOf]; done)
/-- A node does not send meanwhile. -/
def frQ (nd : Int) (e : Em) (b : Em) : Bool := decide (b.nd = nd) && ovB b.fr b.to' e.fr e.to'
def frB (E : List Em) (e : Em) (nd : Int) : Bool := decide (fidx (frQ nd e) E = -1)
set_option maxHeartbeats 8000000 in
theorem ac_free (n p w ns nf : Nat) (ex no th : Int) (E : List Em) (ne : Nat) (hne : E.length = ne) (hbe : ne ≤ 1000000) (i0 : Nat) (n0 c0 f0 t0 : Int) (hq0 : E[i0]? = some ⟨n0, c0, f0, t0⟩) (nd : Int) (v : Bool) (hv : frB E ⟨n0, c0, f0, t0⟩ nd = v) :
    ACalls Tryz.prog 51 [.agg #[.slice (some ⟨0, 0, none⟩) n n, .slice (some ⟨1, 0, none⟩) p p, .slice (some ⟨2, 0, none⟩) w w, .int .i64 ex, .int .i64 no, .int .i64 th, .slice (some ⟨3, 0, none⟩) ns ns, .slice (some ⟨4, 0, none⟩) nf nf, .slice (some ⟨13, 0, none⟩) ne ne, .func (.func 66) #[] #[.pointer (some ⟨14, 0, none⟩)]], .int .i64 i0, .int .i64 nd] [none, none, none, none, none, none, none, none, none, none, none, none, none, some ⟨E.flatMap emC, false, 4⟩, none] (.bool v) [none, none, none, none, none, none, none, none, none, none, none, none, none, none, none] := by
  have hi0 : i0 < ne := by rw [← hne]; exact (List.getElem?_eq_some_iff.1 hq0).1
  unfold frB at hv
  refine acalls_law Tryz.func51 rfl rfl rfl ?_
  repeat' first | refine st ?_ | refine stm ?_ | refine run_nil ?_ | refine Jz ?_ | refine Jw ?_ | refine aw_block ?_
  refine aw_loopg
    (S := fun y : Og => [(1, .int .i64 i0), (2, .int .i64 nd), (3, .pointer (some ⟨15, 0, none⟩)), (10, .slice (some ⟨13, 0, none⟩) ne ne), (11, .int .i64 ne), (12, .int .i64 y.i)])
    (B := fun _ : Og => [none, none, none, none, none, none, none, none, none, none, none, none, none, some ⟨E.flatMap emC, false, 4⟩, none, some ⟨[.slice (some ⟨0, 0, none⟩) n n, .slice (some ⟨1, 0, none⟩) p p, .slice (some ⟨2, 0, none⟩) w w, .int .i64 ex, .int .i64 no, .int .i64 th, .slice (some ⟨3, 0, none⟩) ns ns, .slice (some ⟨4, 0, none⟩) nf nf, .slice (some ⟨13, 0, none⟩) ne ne, .func (.func 66) #[] #[.pointer (some ⟨14, 0, none⟩)]], true, 1⟩])
    (R := fun y : Og => y.i ≤ ne ∧ ∀ (j : Nat), j < y.i → ∀ q, E[j]? = some q → frQ nd ⟨n0, c0, f0, t0⟩ q = false)
    (μ := fun y : Og => ne - y.i) ⟨0⟩ (fitsD [0, 1, 2, 3, 4, 5, 6, 7, 8, 9, 10, 11, 12, 13, 14, 15]) ⟨Nat.zero_le _, fun j hj => absurd hj (Nat.not_lt_zero _)⟩ ?_
  rintro ⟨i⟩ ⟨g1, g2⟩
  dsimp only at *
  by_cases hi : i < ne
  · obtain ⟨⟨n1, c1, f1, t1⟩, hq⟩ : ∃ q, E[i]? = some q := ⟨_, List.getElem?_eq_getElem (by omega)⟩
    obtain ⟨y, hy⟩ : ∃ y, ovB f1 t1 f0 t0 = y := ⟨_, rfl⟩
    have H := ac_ov n1 c1 f1 t1 n0 c0 f0 t0 y hy
    by_cases hn1 : n1 = nd
    · subst hn1
      have hqq : frQ n1 ⟨n0, c0, f0, t0⟩ ⟨n1, c1, f1, t1⟩ = y := by unfold frQ; dsimp only; rw [hy, decide_eq_true rfl, Bool.true_and]
      cases y
      · have hst := no_step (q := frQ n1 ⟨n0, c0, f0, t0⟩) g2 hq hqq
        clear hv g2 hqq hy
        repeat' first | intro h1 | refine st (h := ok_load_rowsE (f := emC) (cs := [.int .i64 n1, .int .i64 c1, .int .i64 f1, .int .i64 t1]) i (fun _ => rfl) hq rfl rfl rfl rfl (by omega)) ?_ | refine sdl (h := ok_load_rowsE (f := emC) (cs := [.int .i64 n0, .int .i64 c0, .int .i64 f0, .int .i64 t0]) i0 (fun _ => rfl) hq0 rfl rfl rfl rfl (by omega)) ?_ | refine st ?_ | refine sd_call (H) ?_ | refine stm ?_ | refine run_nil ?_ | refine sd ?_ | refine sdl ?_ | refine Jk ?_ | refine Jl ?_ | refine Jn ?_ ?_ | refine rund_nil ?_ | refine Jz ?_ | refine Jw ?_ | refine Jx (id := 4) [0,1,0,7,15,31,31,95,31,479,991,2047,4095] 13 ?_ | refine aw_block ?_ | refine Jr ?_ | refine Js ?_ | refine Jy ?_
        all_goals first | exact Exists.intro ⟨i + 1⟩ ⟨fitsD [0, 1, 2, 3, 4, 5, 6, 7, 8, 9, 10, 11, 12, 13, 14, 15], ⟨hi, hst⟩, by dsimp only; omega⟩
      · obtain rfl : v = false := by rw [← hv]; exact decide_eq_false (by rw [fidx_at (q := frQ n1 ⟨n0, c0, f0, t0⟩) hq hqq g2]; omega)
        clear hv g2 hqq hy
        repeat' first | intro h1 | refine st (h := ok_load_rowsE (f := emC) (cs := [.int .i64 n1, .int .i64 c1, .int .i64 f1, .int .i64 t1]) i (fun _ => rfl) hq rfl rfl rfl rfl (by omega)) ?_ | refine sdl (h := ok_load_rowsE (f := emC) (cs := [.int .i64 n0, .int .i64 c0, .int .i64 f0, .int .i64 t0]) i0 (fun _ => rfl) hq0 rfl rfl rfl rfl (by omega)) ?_ | refine st ?_ | refine sd_call (H) ?_ | refine stm ?_ | refine run_nil ?_ | refine sd ?_ | refine sdl ?_ | refine Jk ?_ | refine Jl ?_ | refine Jn ?_ ?_ | refine rund_nil ?_ | refine Jz ?_ | refine Jw ?_ | refine Jx (id := 4) [0,1,0,7,15,31,31,95,31,479,991,2047,4095] 13 ?_ | refine aw_block ?_ | refine Jq ?_ | refine Jr ?_ | refine Js ?_ | refine Jy ?_ | refine aw_ret ?_ | refine pp_ret ?_
        all_goals first
          | rfl
          | (exfalso; omega)
          | (refine congrArg Value.bool ?_; first | exact decide_eq_true (by omega) | exact decide_eq_false (by omega) | exact (decide_eq_true (by omega)).symm | exact (decide_eq_false (by omega)).symm)
          | (show Value.bool _ = Value.bool _; congr 1; first | exact decide_eq_true (by omega) | exact decide_eq_false (by omega) | exact (decide_eq_true (by omega)).symm | exact (decide_eq_false (by omega)).symm)
          | (simp [retOf]; done)
    · have hqq : frQ nd ⟨n0, c0, f0, t0⟩ ⟨n1, c1, f1, t1⟩ = false := by unfold frQ; dsimp only; rw [decide_eq_false hn1, Bool.false_and]
      have hst := no_step (q := frQ nd ⟨n0, c0, f0, t0⟩) g2 hq hqq
      clear hv g2 hqq hy
      repeat' first | intro h1 | refine st (h := ok_load_rowsE (f := emC) (cs := [.int .i64 n1, .int .i64 c1, .int .i64 f1, .int .i64 t1]) i (fun _ => rfl) hq rfl rfl rfl rfl (by omega)) ?_ | refine sdl (h := ok_load_rowsE (f := emC) (cs := [.int .i64 n1, .int .i64 c1, .int .i64 f1, .int .i64 t1]) i (fun _ => rfl) hq rfl rfl rfl rfl (by omega)) ?_ | refine st ?_ | refine stm ?_ | refine run_nil ?_ | refine sd ?_ | refine sdl ?_ | refine Jk ?_ | refine Jl ?_ | refine Jn ?_ ?_ | refine rund_nil ?_ | refine Jz ?_ | refine Jw ?_ | refine Jx (id := 4) [0,1,0,7,15,31,31,95,31,479,991,2047,4095] 13 ?_ | refine aw_block ?_ | refine Jr ?_ | refine Js ?_ | refine Jy ?_
      all_goals first | exact Exists.intro ⟨i + 1⟩ ⟨fitsD [0, 1, 2, 3, 4, 5, 6, 7, 8, 9, 10, 11, 12, 13, 14, 15], ⟨hi, hst⟩, by dsimp only; omega⟩ | (exfalso; omega)
  · obtain rfl : i = ne := by omega
    obtain rfl : v = true := by rw [← hv]; exact decide_eq_true (fidx_no (by rw [hne]; exact g2))
    repeat' first | refine st ?_ | refine run_nil ?_ | refine Jz ?_ | refine Jw ?_ | refine Jt ?_ | refine aw_exit ?_ | refine aw_ret ?_ | refine pp_ret ?_
    all_goals first
      | rfl
      | (exfalso; omega)
      | (refine congrArg Value.bool ?_; first | exact decide_eq_true (by omega) | exact decide_eq_false (by omega) | exact (decide_eq_true (by omega)).symm | exact (decide_eq_false (by omega)).symm)
      | (show Value.bool _ = Value.bool _; congr 1; first | exact decide_eq_true (by omega) | exact decide_eq_false (by omega) | exact (decide_eq_true (by omega)).symm | exact (decide_eq_false (by omega)).symm)
      | (simp [retOf]; done)
theorem ac_others (n p w ns nf ne : Nat) (ex no th i0 nd : Int) : ACalls Tryz.prog 81 [.agg #[.slice (some ⟨0, 0, none⟩) n n, .slice (some ⟨1, 0, none⟩) p p, .slice (some ⟨2, 0, none⟩) w w, .int .i64 ex, .int .i64 no, .int .i64 th, .slice (some ⟨3, 0, none⟩) ns ns, .slice (some ⟨4, 0, none⟩) nf nf, .slice (some ⟨13, 0, none⟩) ne ne, .func (.func 66) #[] #[.pointer (some ⟨14, 0, none⟩)]], .int .i64 i0, .int .i64 nd] [none, none, none, none, none, none, none, none, none, none, none, none, none, none, none] (.func (.func 98) #[] #[.pointer (some ⟨15, 0, none⟩), .pointer (some ⟨16, 0, none⟩), .pointer (some ⟨17, 0, none⟩)]) [none, none, none, none, none, none, none, none, none, none, none, none, none, none, none, some ⟨[.slice (some ⟨0, 0, none⟩) n n, .slice (some ⟨1, 0, none⟩) p p, .slice (some ⟨2, 0, none⟩) w w, .int .i64 ex, .int .i64 no, .int .i64 th, .slice (some ⟨3, 0, none⟩) ns ns, .slice (some ⟨4, 0, none⟩) nf nf, .slice (some ⟨13, 0, none⟩) ne ne, .func (.func 66) #[] #[.pointer (some ⟨14, 0, none⟩)]], true, 1⟩, some ⟨[.int .i64 i0], true, 1⟩, some ⟨[.int .i64 nd], true, 1⟩] := by
  refine acalls_of_aw Tryz.func81 rfl rfl ?_
  repeat' first | refine st ?_ | refine st (h := ok_makeFunc (by ((repeat (apply ArgsR.cons; rfl)); exact ArgsR.nil)) (by ((repeat (apply ArgsR.cons; rfl)); exact ArgsR.nil))) ?_ | refine stm ?_ | refine run_nil ?_ | refine Jz ?_ | refine Jw ?_ | refine aw_ret ?_
  all_goals exact pm_ret _ (renumD [0, 1, 2, 3, 4, 5, 6, 7, 8, 9, 10, 11, 12, 13, 14, 15, 16, 17]) rfl
end Go.Proofs.YtdenooeaiicheaaGreat
