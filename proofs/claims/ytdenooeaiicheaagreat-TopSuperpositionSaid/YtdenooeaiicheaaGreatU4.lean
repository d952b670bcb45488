/- Spectrum: lists of transmitters. Spectrum: Check. Spectrum: Signal. -/
import Derived.Test.YtdenooeaiicheaaGreatVL
import Derived.Test.YtdenooeaiicheaaGreatU1
import Derived.Test.YtdenooeaiicheaaGreatTE
import Derived.Test.YtdenooeaiicheaaGreatT7
set_option linter.unusedVariables false
set_option linter.unusedSimpArgs false
namespace Go.Proofs.YtdenooeaiicheaaGreat
open Go Av
set_option maxRecDepth 20000
theorem live_ch {S : List Sr} {i : Nat} {s : Sr} (b0 b1 b2 b3 b4 : Option Blk) (r : Mem) (hi : i < 8) (h : S[i]? = some s) : live (b0 :: b1 :: b2 :: b3 :: b4 :: chB S 0 :: chB S 1 :: chB S 2 :: chB S 3 :: chB S 4 :: chB S 5 :: chB S 6 :: chB S 7 :: r) (5 + i) = some ⟨s.ch.map (Value.int .i64), false, 1⟩ := by
  have e := chB_of h
  rw [live_some]
  match i, hi with
  | 0, _ => exact congrArg some e
  | 1, _ => exact congrArg some e
  | 2, _ => exact congrArg some e
  | 3, _ => exact congrArg some e
  | 4, _ => exact congrArg some e
  | 5, _ => exact congrArg some e
  | 6, _ => exact congrArg some e
  | 7, _ => exact congrArg some e
theorem blt_of {a b : Nat} (h : a < b) : [a].all (fun j => Nat.blt j b) = true := by
  show (Nat.blt a b && true) = true
  rw [Bool.and_true]
  exact Nat.blt_eq.mpr h
/-- What the lists of a spectrum are, as far as a walk wants it. -/
def chsL (S : List Sr) : Prop := ∀ s ∈ S, s.ch.length ≤ 1000000
set_option maxHeartbeats 8000000 in
theorem ac_if_S (S : List Sr) (ns : Nat) (hn : S.length = ns) (hS : S.length ≤ 8) (hch : chsL S) (x : Int) (hx : fidx badS S = x) : ACalls Tryz.prog 73 [.slice (some ⟨3, 0, none⟩) ns ns, .func (.func 46) #[] #[]] [none, none, none, some ⟨srcs S, false, 1⟩, none, chB S 0, chB S 1, chB S 2, chB S 3, chB S 4, chB S 5, chB S 6, chB S 7] (.int .i64 x) [none, none, none, none, none, none, none, none, none, none, none, none, none] := by
  refine acalls_law Tryz.func73 rfl rfl rfl ?_
  repeat' first | refine st ?_ | refine run_nil ?_ | refine Jz ?_ | refine Jw ?_ | refine aw_block ?_
  refine aw_loopg
    (S := fun y : Og => [(0, .slice (some ⟨3, 0, none⟩) ns ns), (1, .func (.func 46) #[] #[]), (7, .int .i64 ns), (8, .int .i64 y.i)])
    (B := fun _ : Og => [none, none, none, some ⟨srcs S, false, 1⟩, none, chB S 0, chB S 1, chB S 2, chB S 3, chB S 4, chB S 5, chB S 6, chB S 7])
    (R := fun y : Og => y.i ≤ ns ∧ ∀ (j : Nat), j < y.i → ∀ q, S[j]? = some q → badS q = false)
    (μ := fun y : Og => ns - y.i) ⟨0⟩ (fitsD [0, 1, 2, 3, 4, 5, 6, 7, 8, 9, 10, 11, 12] (h4 := (by (repeat (first | exact MemD.nil | apply MemD.hole | (apply MemD.blk; rfl; (first | exact WkL.refl _ | exact WkL.ofEq (renL_map (fun _ => rfl) _).symm | exact WkL.ofEq (renL_flat _).symm | exact WkL.ofEq (ren_srcs hS (gOf_id rfl)).symm); rfl)))))) ⟨Nat.zero_le _, fun j hj => absurd hj (Nat.not_lt_zero _)⟩ ?_
  rintro ⟨i⟩ ⟨g1, g2⟩
  dsimp only at *
  by_cases hi : i < ns
  · obtain ⟨⟨x0, y0, pw, ch, per, fr, to'⟩, hq⟩ : ∃ q, S[i]? = some q := ⟨_, List.getElem?_eq_getElem (by omega)⟩
    obtain ⟨y, hy⟩ : ∃ y, badS ⟨x0, y0, pw, ch, per, fr, to'⟩ = y := ⟨_, rfl⟩
    have H := ac_ck1 x0 y0 pw ch (hch _ (List.mem_of_getElem? hq)) per fr to' y hy
    have hrow := row_of hq
    have hlv := live_ch none none none (some ⟨srcs S, false, 1⟩) none [] (by omega) hq
    have hin : i < 8 := by omega
    cases y
    · have hst := no_step (q := badS) g2 hq hy
      clear hx g2
      repeat' first | refine st (h := ok_load_rowsE (f := srR) (cs := [.int .i64 x0, .int .i64 y0, .int .i64 pw, chV (5 + i) ch, .int .i64 per, .int .i64 fr, .int .i64 to']) i (fun _ => rfl) hrow rfl rfl rfl rfl (by omega)) ?_ | refine st ?_ | refine stRW [5 + i] H ?_ (hargs := WkL.refl _) (hsub := SubM.ro hlv (WkL.ofEq (renL_map (fun _ => rfl) _).symm) SubM.nil) (hin := blt_of (show 5 + i < 13 by omega)) | refine run_nil ?_ | refine Jz ?_ | refine Jw ?_ | refine aw_block ?_ | refine Jr ?_ | refine Js ?_ | refine Jy ?_
      all_goals first | exact Exists.intro ⟨i + 1⟩ ⟨fitsD [0, 1, 2, 3, 4, 5, 6, 7, 8, 9, 10, 11, 12] (h4 := (by (repeat (first | exact MemD.nil | apply MemD.hole | (apply MemD.blk; rfl; (first | exact WkL.refl _ | exact WkL.ofEq (renL_map (fun _ => rfl) _).symm | exact WkL.ofEq (renL_flat _).symm | exact WkL.ofEq (ren_srcs hS (gOf_id rfl)).symm); rfl))))), ⟨hi, hst⟩, by dsimp only; omega⟩
    · obtain rfl : x = i := by rw [← hx]; exact fidx_at (q := badS) hq hy g2
      clear hx g2
      repeat' first | refine st (h := ok_load_rowsE (f := srR) (cs := [.int .i64 x0, .int .i64 y0, .int .i64 pw, chV (5 + i) ch, .int .i64 per, .int .i64 fr, .int .i64 to']) i (fun _ => rfl) hrow rfl rfl rfl rfl (by omega)) ?_ | refine st ?_ | refine stRW [5 + i] H ?_ (hargs := WkL.refl _) (hsub := SubM.ro hlv (WkL.ofEq (renL_map (fun _ => rfl) _).symm) SubM.nil) (hin := blt_of (show 5 + i < 13 by omega)) | refine run_nil ?_ | refine Jz ?_ | refine Jw ?_ | refine aw_block ?_ | refine Jq ?_ | refine Js ?_ | refine Jy ?_ | refine aw_ret ?_ | refine pp_ret ?_
      all_goals first
        | rfl
        | (exfalso; omega)
        | (refine congrArg Value.bool ?_; first | exact decide_eq_true (by omega) | exact decide_eq_false (by omega) | exact (decide_eq_true (by omega)).symm | exact (decide_eq_false (by omega)).symm)
        | (show Value.bool _ = Value.bool _; congr 1; first | exact decide_eq_true (by omega) | exact decide_eq_false (by omega) | exact (decide_eq_true (by omega)).symm | exact (decide_eq_false (by omega)).symm)
        | (simp [retOf]; done)
  · obtain rfl : i = ns := by omega
    obtain rfl : x = -1 := by rw [← hx]; exact fidx_no (by rw [hn]; exact g2)
    repeat' first | refine st ?_ | refine run_nil ?_ | refine Jz ?_ | refine Jw ?_ | refine Jt ?_ | refine aw_exit ?_ | refine aw_ret ?_ | refine pp_ret ?_
    all_goals first
      | rfl
      | (exfalso; omega)
      | (refine congrArg Value.bool ?_; first | exact decide_eq_true (by omega) | exact decide_eq_false (by omega) | exact (decide_eq_true (by omega)).symm | exact (decide_eq_false (by omega)).symm)
      | (show Value.bool _ = Value.bool _; congr 1; first | exact decide_eq_true (by omega) | exact decide_eq_false (by omega) | exact (decide_eq_true (by omega)).symm | exact (decide_eq_false (by omega)).symm)
      | (simp [retOf]; done)
set_option maxHeartbeats 1000000 in
theorem ac_cf_S (S : List Sr) (ns : Nat) (hn : S.length = ns) (hS : S.length ≤ 8) (hch : chsL S) (x : Bool) (hx : decide (fidx badS S ≠ -1) = x) : ACalls Tryz.prog 45 [.slice (some ⟨3, 0, none⟩) ns ns, .func (.func 46) #[] #[]] [none, none, none, some ⟨srcs S, false, 1⟩, none, chB S 0, chB S 1, chB S 2, chB S 3, chB S 4, chB S 5, chB S 6, chB S 7] (.bool x) [none, none, none, none, none, none, none, none, none, none, none, none, none] := by
  obtain ⟨z, hz⟩ : ∃ z, fidx badS S = z := ⟨_, rfl⟩
  have H := ac_if_S S ns hn hS hch z hz
  have hge := (fidx_ge (q := badS) (l := S)).1
  rw [hz] at hx hge
  refine acalls_law Tryz.func45 rfl rfl rfl ?_
  repeat' first | refine st ?_ | refine stRW [0, 1, 2, 3, 4, 5, 6, 7, 8, 9, 10, 11, 12] H ?_ (hsub := by (repeat (first | exact SubM.nil | apply SubM.hole | (apply SubM.rw; rfl; (first | exact WkL.refl _ | exact WkL.ofEq (renL_map (fun _ => rfl) _).symm | exact WkL.ofEq (renL_flat _).symm | exact WkL.ofEq (ren_srcs hS (gOf_id rfl)).symm)) | (apply SubM.ro; rfl; (first | exact WkL.refl _ | exact WkL.ofEq (renL_map (fun _ => rfl) _).symm | exact WkL.ofEq (renL_flat _).symm | exact WkL.ofEq (ren_srcs hS (gOf_id rfl)).symm))))) | refine run_nil ?_ | refine Jz ?_ | refine Jw ?_ | refine aw_ret ?_ | refine pp_ret ?_
  all_goals first | (rw [← hx]; exact congrArg Value.bool (decide_eq_decide.2 (by omega)))
end Go.Proofs.YtdenooeaiicheaaGreat
namespace Go.Proofs.YtdenooeaiicheaaGreat
open Go Av
set_option maxRecDepth 20000
/-- A spectrum is right. -/
def spB (S : List Sr) (F : List Fd) : Bool := decide (S.length ≤ 16 ∧ F.length ≤ 64) && (!decide (fidx badS S ≠ -1) && !decide (fidx badF F ≠ -1))
set_option maxHeartbeats 8000000 in
theorem ac_spCheck (S : List Sr) (F : List Fd) (ns nf : Nat) (hn : S.length = ns) (hf : F.length = nf) (hS : S.length ≤ 8) (hb : nf ≤ 1000000) (hch : chsL S) (x : Bool) (hx : spB S F = x) : ACalls Tryz.prog 23 [.agg #[.slice (some ⟨3, 0, none⟩) ns ns, .slice (some ⟨4, 0, none⟩) nf nf]] [none, none, none, some ⟨srcs S, false, 1⟩, some ⟨F.flatMap fdC, false, 1⟩, chB S 0, chB S 1, chB S 2, chB S 3, chB S 4, chB S 5, chB S 6, chB S 7] (.int .i64 (if x then 0 else 1)) [none, none, none, none, none, none, none, none, none, none, none, none, none] := by
  obtain ⟨z1, h1⟩ : ∃ z, decide (fidx badS S ≠ -1) = z := ⟨_, rfl⟩
  obtain ⟨z2, h2⟩ : ∃ z, decide (fidx badF F ≠ -1) = z := ⟨_, rfl⟩
  have H1 := ac_cf_S S ns hn hS hch z1 h1
  have H2 := ac_cf_F F nf hf (by omega) z2 h2
  have hns : ns ≤ 8 := by omega
  unfold spB at hx
  rw [h1, h2, hn, hf] at hx
  clear h1 h2
  by_cases hnum : nf ≤ 64
  · rw [decide_eq_true (show ns ≤ 16 ∧ nf ≤ 64 by omega), Bool.true_and] at hx
    cases z1
    · cases z2
      all_goals rw [← hx]
      all_goals refine acalls_law Tryz.func23 rfl rfl rfl ?_
      repeat' first | refine st ?_ | refine stRW [0, 1, 2, 3, 4, 5, 6, 7, 8, 9, 10, 11, 12] H1 ?_ (hsub := by (repeat (first | exact SubM.nil | apply SubM.hole | (apply SubM.rw; rfl; (first | exact WkL.refl _ | exact WkL.ofEq (renL_map (fun _ => rfl) _).symm | exact WkL.ofEq (renL_flat _).symm | exact WkL.ofEq (ren_srcs hS (gOf_id rfl)).symm)) | (apply SubM.ro; rfl; (first | exact WkL.refl _ | exact WkL.ofEq (renL_map (fun _ => rfl) _).symm | exact WkL.ofEq (renL_flat _).symm | exact WkL.ofEq (ren_srcs hS (gOf_id rfl)).symm))))) | refine stRW [4] H2 ?_ | refine stm ?_ | refine Ja ?_ | refine Jf ?_ | refine run_nil ?_ | refine Jz ?_ | refine Jw ?_ | refine Jq ?_ | refine Jr ?_ | refine Jt ?_ | refine Jy ?_ | refine aw_ret ?_ | refine pp_ret ?_
      all_goals first
        | rfl
        | (exfalso; omega)
        | (refine congrArg Value.bool ?_; first | exact decide_eq_true (by omega) | exact decide_eq_false (by omega) | exact (decide_eq_true (by omega)).symm | exact (decide_eq_false (by omega)).symm)
        | (show Value.bool _ = Value.bool _; congr 1; first | exact decide_eq_true (by omega) | exact decide_eq_false (by omega) | exact (decide_eq_true (by omega)).symm | exact (decide_eq_false (by omega)).symm)
        | (simp [retOf]; done)
    · rw [← hx]
      refine acalls_law Tryz.func23 rfl rfl rfl ?_
      repeat' first | refine st ?_ | refine stRW [0, 1, 2, 3, 4, 5, 6, 7, 8, 9, 10, 11, 12] H1 ?_ (hsub := by (repeat (first | exact SubM.nil | apply SubM.hole | (apply SubM.rw; rfl; (first | exact WkL.refl _ | exact WkL.ofEq (renL_map (fun _ => rfl) _).symm | exact WkL.ofEq (renL_flat _).symm | exact WkL.ofEq (ren_srcs hS (gOf_id rfl)).symm)) | (apply SubM.ro; rfl; (first | exact WkL.refl _ | exact WkL.ofEq (renL_map (fun _ => rfl) _).symm | exact WkL.ofEq (renL_flat _).symm | exact WkL.ofEq (ren_srcs hS (gOf_id rfl)).symm))))) | refine stm ?_ | refine Ja ?_ | refine Jb ?_ | refine Jf ?_ | refine run_nil ?_ | refine Jz ?_ | refine Jw ?_ | refine Jq ?_ | refine Jt ?_ | refine Jy ?_ | refine aw_ret ?_ | refine pp_ret ?_
      all_goals first
        | rfl
        | (exfalso; omega)
        | (refine congrArg Value.bool ?_; first | exact decide_eq_true (by omega) | exact decide_eq_false (by omega) | exact (decide_eq_true (by omega)).symm | exact (decide_eq_false (by omega)).symm)
        | (show Value.bool _ = Value.bool _; congr 1; first | exact decide_eq_true (by omega) | exact decide_eq_false (by omega) | exact (decide_eq_true (by omega)).symm | exact (decide_eq_false (by omega)).symm)
        | (simp [retOf]; done)
  · rw [decide_eq_false (show ¬ (ns ≤ 16 ∧ nf ≤ 64) by omega), Bool.false_and] at hx
    rw [← hx]
    refine acalls_law Tryz.func23 rfl rfl rfl ?_
    repeat' first | refine st ?_ | refine stm ?_ | refine Ja ?_ | refine Jf ?_ | refine run_nil ?_ | refine Jz ?_ | refine Jw ?_ | refine Js ?_ | refine aw_ret ?_ | refine pp_ret ?_
    all_goals first
      | rfl
      | (exfalso; omega)
      | (refine congrArg Value.bool ?_; first | exact decide_eq_true (by omega) | exact decide_eq_false (by omega) | exact (decide_eq_true (by omega)).symm | exact (decide_eq_false (by omega)).symm)
      | (show Value.bool _ = Value.bool _; congr 1; first | exact decide_eq_true (by omega) | exact decide_eq_false (by omega) | exact (decide_eq_true (by omega)).symm | exact (decide_eq_false (by omega)).symm)
      | (simp [retOf]; done)
end Go.Proofs.YtdenooeaiicheaaGreat
namespace Go.Proofs.YtdenooeaiicheaaGreat
open Go Av
set_option maxRecDepth 20000
set_option maxHeartbeats 8000000 in
theorem ac_pair (N : List P2) (Pw : List Int) (L : List Wl) (n p w : Nat) (hn : N.length = n) (hp : Pw.length = p) (hw : L.length = w) (hb : n ≤ 1000000 ∧ p ≤ 1000000 ∧ w ≤ 1000000) (ex no th : Int) (hok : siteB N Pw L ex no th = true) (S : List Sr) (F : List Fd) (ns nf : Nat) (hns : S.length = ns) (hnf : F.length = nf) (hS : S.length ≤ 8) (hbf : nf ≤ 1000000) (hch : chsL S) (hsp : spB S F = true) (a b : Nat) (hab : a < n ∧ b < n) (v : Int) (hv : btI ex N Pw L a b = v) :
    ACalls Tryz.prog 94 [.agg #[.slice (some ⟨0, 0, none⟩) n n, .slice (some ⟨1, 0, none⟩) p p, .slice (some ⟨2, 0, none⟩) w w, .int .i64 ex, .int .i64 no, .int .i64 th], .agg #[.slice (some ⟨3, 0, none⟩) ns ns, .slice (some ⟨4, 0, none⟩) nf nf], .int .i64 a, .int .i64 b] [some ⟨N.flatMap ptC, false, 1⟩, some ⟨List.map (Value.int .i64) Pw, false, 1⟩, some ⟨L.flatMap wlC, false, 1⟩, some ⟨srcs S, false, 1⟩, some ⟨F.flatMap fdC, false, 1⟩, chB S 0, chB S 1, chB S 2, chB S 3, chB S 4, chB S 5, chB S 6, chB S 7] (.tuple #[.int .i64 v, .int .i64 0]) [none, none, none, none, none, none, none, none, none, none, none, none, none] := by
  have H1 := ac_site N Pw L n p w hn hp hw hb ex no th true hok
  have H2 := ac_spCheck S F ns nf hns hnf hS hbf hch true hsp
  have H3 := ac_Between N Pw L n p w hn hp hw hb ex no th hok a b hab v hv
  rw [if_pos rfl] at H1 H2
  refine acalls_law Tryz.func94 rfl rfl rfl ?_
  repeat' first | refine st ?_ | refine stRW [0, 1, 2] H1 ?_ | refine stRW [0, 1, 2, 3, 4, 5, 6, 7, 8, 9, 10, 11, 12] H2 ?_ (hsub := by (repeat (first | exact SubM.nil | apply SubM.hole | (apply SubM.rw; rfl; (first | exact WkL.refl _ | exact WkL.ofEq (renL_map (fun _ => rfl) _).symm | exact WkL.ofEq (renL_flat _).symm | exact WkL.ofEq (ren_srcs hS (gOf_id rfl)).symm)) | (apply SubM.ro; rfl; (first | exact WkL.refl _ | exact WkL.ofEq (renL_map (fun _ => rfl) _).symm | exact WkL.ofEq (renL_flat _).symm | exact WkL.ofEq (ren_srcs hS (gOf_id rfl)).symm))))) | refine stRW [0, 1, 2] H3 ?_ | refine stm ?_ | refine Ja ?_ | refine run_nil ?_ | refine Jz ?_ | refine Jw ?_ | refine Jr ?_ | refine Jy ?_ | refine aw_ret ?_ | refine pp_ret ?_
  all_goals first
    | rfl
    | (exfalso; omega)
    | (refine congrArg Value.bool ?_; first | exact decide_eq_true (by omega) | exact decide_eq_false (by omega) | exact (decide_eq_true (by omega)).symm | exact (decide_eq_false (by omega)).symm)
    | (show Value.bool _ = Value.bool _; congr 1; first | exact decide_eq_true (by omega) | exact decide_eq_false (by omega) | exact (decide_eq_true (by omega)).symm | exact (decide_eq_false (by omega)).symm)
    | (simp [retOf]; done)
/-- The signal of a node at another one. -/
def sgI (ex : Int) (N : List P2) (Pw : List Int) (L : List Wl) (F : List Fd) (a b : Nat) (c t : Int) : Int := sclI (btI ex N Pw L a b) (lsI a b c t F)
def sgE (ex : Int) (N : List P2) (Pw : List Int) (L : List Wl) (F : List Fd) (a b : Nat) (c t : Int) : Int := sclE (btI ex N Pw L a b) (lsI a b c t F)
set_option maxHeartbeats 8000000 in
theorem ac_Signal (N : List P2) (Pw : List Int) (L : List Wl) (n p w : Nat) (hn : N.length = n) (hp : Pw.length = p) (hw : L.length = w) (hb : n ≤ 1000000 ∧ p ≤ 1000000 ∧ w ≤ 1000000) (ex no th : Int) (hok : siteB N Pw L ex no th = true) (S : List Sr) (F : List Fd) (ns nf : Nat) (hns : S.length = ns) (hnf : F.length = nf) (hS : S.length ≤ 8) (hbf : nf ≤ 1000000) (hch : chsL S) (hsp : spB S F = true) (a b : Nat) (hab : a < n ∧ b < n) (c t : Int) (hc : 0 ≤ c ∧ c < 16) (ht : 0 ≤ t ∧ t ≤ 1099511627776) (v e : Int) (hv : sgI ex N Pw L F a b c t = v) (he : sgE ex N Pw L F a b c t = e) :
    ACalls Tryz.prog 79 [.agg #[.slice (some ⟨0, 0, none⟩) n n, .slice (some ⟨1, 0, none⟩) p p, .slice (some ⟨2, 0, none⟩) w w, .int .i64 ex, .int .i64 no, .int .i64 th], .agg #[.slice (some ⟨3, 0, none⟩) ns ns, .slice (some ⟨4, 0, none⟩) nf nf], .int .i64 a, .int .i64 b, .int .i64 c, .int .i64 t] [some ⟨N.flatMap ptC, false, 1⟩, some ⟨List.map (Value.int .i64) Pw, false, 1⟩, some ⟨L.flatMap wlC, false, 1⟩, some ⟨srcs S, false, 1⟩, some ⟨F.flatMap fdC, false, 1⟩, chB S 0, chB S 1, chB S 2, chB S 3, chB S 4, chB S 5, chB S 6, chB S 7] (.tuple #[.int .i64 v, .int .i64 e]) [none, none, none, none, none, none, none, none, none, none, none, none, none] := by
  obtain ⟨q, hq⟩ : ∃ q, btI ex N Pw L a b = q := ⟨_, rfl⟩
  obtain ⟨k, hk⟩ : ∃ q, lsI a b c t F = q := ⟨_, rfl⟩
  have H1 := ac_pair N Pw L n p w hn hp hw hb ex no th hok S F ns nf hns hnf hS hbf hch hsp a b hab q hq
  have H2 := ac_factor a b c t ns F nf hnf hbf k hk
  unfold sgI at hv
  unfold sgE at he
  rw [hq, hk] at hv he
  have H3 := ac_scale q k v e hv he
  have H4 := ac_chn c true (by unfold chnB; exact decide_eq_true hc)
  clear hv he hq hk
  refine acalls_law Tryz.func79 rfl rfl rfl ?_
  repeat' first | refine st ?_ | refine stRW [0, 1, 2, 3, 4, 5, 6, 7, 8, 9, 10, 11, 12] H1 ?_ (hsub := by (repeat (first | exact SubM.nil | apply SubM.hole | (apply SubM.rw; rfl; (first | exact WkL.refl _ | exact WkL.ofEq (renL_map (fun _ => rfl) _).symm | exact WkL.ofEq (renL_flat _).symm | exact WkL.ofEq (ren_srcs hS (gOf_id rfl)).symm)) | (apply SubM.ro; rfl; (first | exact WkL.refl _ | exact WkL.ofEq (renL_map (fun _ => rfl) _).symm | exact WkL.ofEq (renL_flat _).symm | exact WkL.ofEq (ren_srcs hS (gOf_id rfl)).symm))))) | refine stRW [3, 4] H2 ?_ | refine st_call (H3) ?_ | refine st_call (H4) ?_ | refine stm ?_ | refine Ja ?_ | refine Jf ?_ | refine run_nil ?_ | refine Jz ?_ | refine Jw ?_ | refine aw_block ?_ | refine Jr ?_ | refine Jt ?_ | refine Jy ?_ | refine aw_ret ?_ | refine pp_ret ?_
  all_goals first
    | rfl
    | (exfalso; omega)
    | (refine congrArg Value.bool ?_; first | exact decide_eq_true (by omega) | exact decide_eq_false (by omega) | exact (decide_eq_true (by omega)).symm | exact (decide_eq_false (by omega)).symm)
    | (show Value.bool _ = Value.bool _; congr 1; first | exact decide_eq_true (by omega) | exact decide_eq_false (by omega) | exact (decide_eq_true (by omega)).symm | exact (decide_eq_false (by omega)).symm)
    | (simp [retOf]; done)
end Go.Proofs.YtdenooeaiicheaaGreat
