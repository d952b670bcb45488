/- Spectrum: small contracts. Spectrum: the transmitters that are on: an iterator. -/
import Derived.Test.YtdenooeaiicheaaGreatVL
import Derived.Test.YtdenooeaiicheaaGreatU4
import Derived.Test.YtdenooeaiicheaaGreatH2
import Derived.Test.YtdenooeaiicheaaGreatTE
set_option linter.unusedVariables false
set_option linter.unusedSimpArgs false
namespace Go.Proofs.YtdenooeaiicheaaGreat
open Go Av
set_option maxRecDepth 20000
theorem ac_index0 (c : Int) : ACalls Tryz.prog 28 [.slice (some ⟨0, 0, some 1⟩) 0 0, .int .i64 c] [some ⟨[], false, 1⟩] (.int .i64 (-1)) [none] := by
  refine acalls_law Tryz.func28 rfl rfl rfl ?_
  repeat' first | refine st ?_ | refine run_nil ?_ | refine Jz ?_ | refine Jw ?_ | refine aw_block ?_
  refine aw_loopg
    (S := fun y : Og => [(0, .slice (some ⟨0, 0, some 1⟩) 0 0), (1, .int .i64 c), (7, .int .i64 (0 : Nat)), (8, .int .i64 (0 : Nat))])
    (B := fun _ : Og => [some ⟨[], false, 1⟩])
    (R := fun y : Og => True)
    (μ := fun y : Og => 0) ⟨0⟩ (fitsD [0]) trivial ?_
  rintro ⟨i⟩ -
  repeat' first | refine st ?_ | refine run_nil ?_ | refine Jz ?_ | refine Jw ?_ | refine Jr ?_ | refine aw_exit ?_ | refine aw_ret ?_ | refine pp_ret ?_
  all_goals first
    | rfl
    | (exfalso; omega)
    | (refine congrArg Value.bool ?_; first | exact decide_eq_true (by omega) | exact decide_eq_false (by omega) | exact (decide_eq_true (by omega)).symm | exact (decide_eq_false (by omega)).symm)
    | (show Value.bool _ = Value.bool _; congr 1; first | exact decide_eq_true (by omega) | exact decide_eq_false (by omega) | exact (decide_eq_true (by omega)).symm | exact (decide_eq_false (by omega)).symm)
    | (simp [retOf]; done)
theorem ac_contains0 (c : Int) : ACalls Tryz.prog 12 [.slice (some ⟨0, 0, some 1⟩) 0 0, .int .i64 c] [some ⟨[], false, 1⟩] (.bool false) [none] := by
  refine acalls_law Tryz.func12 rfl rfl rfl ?_
  repeat' first | refine st ?_ | refine stRW [0] (ac_index0 _) ?_ | refine run_nil ?_ | refine Jz ?_ | refine Jw ?_ | refine aw_ret ?_ | refine pp_ret ?_
  all_goals first
    | rfl
    | (exfalso; omega)
    | (refine congrArg Value.bool ?_; first | exact decide_eq_true (by omega) | exact decide_eq_false (by omega) | exact (decide_eq_true (by omega)).symm | exact (decide_eq_false (by omega)).symm)
    | (show Value.bool _ = Value.bool _; congr 1; first | exact decide_eq_true (by omega) | exact decide_eq_false (by omega) | exact (decide_eq_true (by omega)).symm | exact (decide_eq_false (by omega)).symm)
    | (simp [retOf]; done)
theorem ac_containsV (ch : List Int) (hb : ch.length ≤ 1000000) (c : Int) (x : Bool) (hx : hasI ch c = x) : ACalls Tryz.prog 12 [chV 0 ch, .int .i64 c] [some ⟨ch.map (Value.int .i64), false, 1⟩] (.bool x) [none] := by
  by_cases h0 : ch.length = 0
  · obtain rfl := List.eq_nil_of_length_eq_zero h0
    obtain rfl : x = false := by rw [← hx]; rfl
    exact ac_contains0 c
  · rw [chV_pos 0 rfl h0]
    exact ac_containsI ch ch _ (Nat.le_refl _) (List.take_length ..) (by omega) c x hx
set_option maxHeartbeats 8000000 in
theorem ac_onP (x y pw : Int) (k : Nat) (sp : Option Nat) (per fr to' f t : Int) (hs : 0 ≤ fr ∧ fr ≤ to' ∧ to' ≤ per ∧ 1 ≤ per ∧ per ≤ 1000000000) (hi : 0 ≤ f ∧ f ≤ t ∧ t ≤ 1000000000000000000) (v : Bool) (hx : onS per fr to' f t = v) : ACalls Tryz.prog 123 [.agg #[.int .i64 x, .int .i64 y, .int .i64 pw, .slice (some ⟨0, 0, sp⟩) k k, .int .i64 per, .int .i64 fr, .int .i64 to'], .int .i64 f, .int .i64 t] [none] (.bool v) [none] := by
  obtain ⟨r, hr⟩ : ∃ r, f.tmod per = r := ⟨_, rfl⟩
  have hr0 : 0 ≤ r := by rw [← hr]; exact Int.tmod_nonneg _ (by omega)
  have hr1 : r < per := by rw [← hr]; exact Int.tmod_lt_of_pos _ (by omega)
  unfold onS at hx
  rw [hr] at hx
  by_cases h0 : f = t ∨ fr = to'
  · rw [if_pos h0] at hx
    subst hx
    refine acalls_law Tryz.func123 rfl rfl rfl ?_
    repeat' first | intro h1 | refine st ?_ | refine stm ?_ | refine Ja ?_ | refine Jb ?_ | refine Ji ?_ ?_ | refine run_nil ?_ | refine Jz ?_ | refine Jw ?_ | refine Jq ?_ | refine Js ?_ | refine aw_ret ?_ | refine pp_ret ?_
    all_goals first
      | rfl
      | (exfalso; omega)
      | (refine congrArg Value.bool ?_; first | exact decide_eq_true (by omega) | exact decide_eq_false (by omega) | exact (decide_eq_true (by omega)).symm | exact (decide_eq_false (by omega)).symm)
      | (show Value.bool _ = Value.bool _; congr 1; first | exact decide_eq_true (by omega) | exact decide_eq_false (by omega) | exact (decide_eq_true (by omega)).symm | exact (decide_eq_false (by omega)).symm)
      | (simp [retOf]; done)
  · rw [if_neg h0] at hx
    refine acalls_law Tryz.func123 rfl rfl rfl ?_
    repeat' first | intro h1 | refine st (h := ok_remD rfl rfl (by omega) hr) ?_ | refine st ?_ | refine stm ?_ | refine Ja ?_ | refine Jb ?_ | refine Jf ?_ | refine Jh ?_ ?_ | refine Ji ?_ ?_ | refine run_nil ?_ | refine Jz ?_ | refine Jw ?_ | refine Jt ?_ | refine Jy ?_ | refine aw_ret ?_ | refine pp_ret ?_
    all_goals first
      | rfl
      | (exfalso; omega)
      | (rw [← hx]; refine congrArg Value.bool ?_; first | exact (decide_eq_true (by omega)).symm | exact (decide_eq_false (by omega)).symm | exact decide_eq_decide.2 (by omega))
      | (rw [← hx]; show Value.bool _ = Value.bool _; congr 1; first | exact (decide_eq_true (by omega)).symm | exact (decide_eq_false (by omega)).symm | exact decide_eq_decide.2 (by omega))
      | (exfalso; simp only [Bool.not_eq_true', Bool.not_eq_false', decide_eq_true_eq, decide_eq_false_iff_not, Bool.not_false, Bool.not_true] at *; omega)
      | (simp [retOf]; done)
end Go.Proofs.YtdenooeaiicheaaGreat
namespace Go.Proofs.YtdenooeaiicheaaGreat
open Go Av
set_option maxRecDepth 20000
/-- A transmitter is on, on a channel, at some time of an interval. -/
def acQ (c f t : Int) (p : Sr × Nat) : Bool := hasI p.1.ch c && onS p.1.per p.1.fr p.1.to' f t
def srV (p : Sr × Nat) : Value := .agg #[.int .i64 p.1.x, .int .i64 p.1.y, .int .i64 p.1.pw, .slice (some ⟨5 + p.2, 0, none⟩) p.1.ch.length p.1.ch.length, .int .i64 p.1.per, .int .i64 p.1.fr, .int .i64 p.1.to']
def acE (c f t : Int) (S : List Sr) (x : Fin (S.zipIdx.filter (acQ c f t)).length) : List Value := [srV ((S.zipIdx.filter (acQ c f t)).get x)]
theorem srV_lt {p : Sr × Nat} (h : p.2 < 8) : ([srV p] : List Value).all (ltV 17 4) = true := by
  simp only [srV, ltV, List.all_cons, List.all_nil, Bool.and_true, Bool.true_and]
  exact Nat.blt_eq.mpr (by omega)
theorem has_ne {ch : List Int} {c : Int} (h : hasI ch c = true) : ch.length ≠ 0 := fun h0 => by
  obtain rfl := List.eq_nil_of_length_eq_zero h0
  cases h
/-- What `source` says of times, of all transmitters. -/
def timOK (S : List Sr) : Prop := ∀ s ∈ S, 0 ≤ s.fr ∧ s.fr ≤ s.to' ∧ s.to' ≤ s.per ∧ 1 ≤ s.per ∧ s.per ≤ 1000000000
set_option maxHeartbeats 16000000 in
theorem it_active (S : List Sr) (ns nf : Nat) (hns : S.length = ns) (hS : S.length ≤ 8) (hch : chsL S) (hti : timOK S) (c f t : Int) (hi0 : 0 ≤ f ∧ f ≤ t ∧ t ≤ 1099511627776) :
    ItG Tryz.prog 122 [.pointer (some ⟨13, 0, none⟩), .pointer (some ⟨14, 0, none⟩), .pointer (some ⟨15, 0, none⟩), .pointer (some ⟨16, 0, none⟩)] [none, none, none, some ⟨srcs S, false, 1⟩, none, chB S 0, chB S 1, chB S 2, chB S 3, chB S 4, chB S 5, chB S 6, chB S 7, some ⟨[.slice (some ⟨3, 0, none⟩) ns ns, .slice (some ⟨4, 0, none⟩) nf nf], true, 1⟩, some ⟨[.int .i64 c], true, 1⟩, some ⟨[.int .i64 f], true, 1⟩, some ⟨[.int .i64 t], true, 1⟩] (S.zipIdx.filter (acQ c f t)).length (acE c f t S) := by
  refine itG_of Tryz.func122 rfl rfl rfl (ro_of rfl) fun μ l J Jx hY => ?_
  show IW _ _ _ _ _ _ _ _ _ [none, none, none, some ⟨srcs S, false, 1⟩, none, chB S 0, chB S 1, chB S 2, chB S 3, chB S 4, chB S 5, chB S 6, chB S 7, some ⟨[.slice (some ⟨3, 0, none⟩) ns ns, .slice (some ⟨4, 0, none⟩) nf nf], false, 1⟩, some ⟨[.int .i64 c], false, 1⟩, some ⟨[.int .i64 f], false, 1⟩, some ⟨[.int .i64 t], false, 1⟩] _ _
  repeat' first | refine And.intro (by rfl) ?_ | refine st ?_ | refine run_nil ?_ | refine iw_seq ?_ | refine iw_list (by kernel_rfl) ?_ | refine iw_block ?_
  refine iw_loop (fun j σ m g xs => ∃ k, j = ns - k ∧ k ≤ ns ∧ g = true ∧ Fits 17 [(0, .func (.yield l) #[] #[]), (1, .pointer (some ⟨13, 0, none⟩)), (2, .pointer (some ⟨14, 0, none⟩)), (3, .pointer (some ⟨15, 0, none⟩)), (4, .pointer (some ⟨16, 0, none⟩)), (9, .slice (some ⟨3, 0, none⟩) ns ns), (10, .int .i64 ns), (11, .int .i64 k)] [none, none, none, some ⟨srcs S, false, 1⟩, none, chB S 0, chB S 1, chB S 2, chB S 3, chB S 4, chB S 5, chB S 6, chB S 7, some ⟨[.slice (some ⟨3, 0, none⟩) ns ns, .slice (some ⟨4, 0, none⟩) nf nf], false, 1⟩, some ⟨[.int .i64 c], false, 1⟩, some ⟨[.int .i64 f], false, 1⟩, some ⟨[.int .i64 t], false, 1⟩] σ m ∧ pr xs = (List.finRange _).take (cntI (acQ c f t) S.zipIdx k)) (k := ns) ⟨0, by omega, by omega, rfl, fitsD [0, 1, 2, 3, 4, 5, 6, 7, 8, 9, 10, 11, 12, 13, 14, 15, 16] (h4 := (by (repeat (first | exact MemD.nil | apply MemD.hole | (apply MemD.blk; rfl; (first | exact WkL.refl _ | exact WkL.ofEq (renL_map (fun _ => rfl) _).symm | exact WkL.ofEq (renL_flat _).symm | exact WkL.ofEq (ren_srcs hS (gOf_id rfl)).symm); rfl))))), rfl⟩ ?_
  rintro j σ m g xs ⟨i, rfl, hk, rfl, hfit, hxs⟩
  refine iw_fits (B := [none, none, none, some ⟨srcs S, false, 1⟩, none, chB S 0, chB S 1, chB S 2, chB S 3, chB S 4, chB S 5, chB S 6, chB S 7, some ⟨[.slice (some ⟨3, 0, none⟩) ns ns, .slice (some ⟨4, 0, none⟩) nf nf], false, 1⟩, some ⟨[.int .i64 c], false, 1⟩, some ⟨[.int .i64 f], false, 1⟩, some ⟨[.int .i64 t], false, 1⟩]) hfit rfl ?_
  by_cases hlt : i < ns
  · obtain ⟨⟨x0, y0, pw, ch, per, fr, to'⟩, hq⟩ : ∃ q, S[i]? = some q := ⟨_, List.getElem?_eq_getElem (by omega)⟩
    have hrow := row_of hq
    have hi8 : i < 8 := by omega
    have ht := hti _ (List.mem_of_getElem? hq)
    dsimp only at ht
    obtain ⟨y, hy⟩ : ∃ y, hasI ch c = y := ⟨_, rfl⟩
    obtain ⟨z, hz⟩ : ∃ z, onS per fr to' f t = z := ⟨_, rfl⟩
    have H := ac_containsV ch (hch _ (List.mem_of_getElem? hq)) c y hy
    have H2 := ac_onP x0 y0 pw ch.length (if ch.length = 0 then some 1 else none) per fr to' f t ht (by omega) z hz
    have hlv := live_ch none none none (some ⟨srcs S, false, 1⟩) none [some ⟨[.slice (some ⟨3, 0, none⟩) ns ns, .slice (some ⟨4, 0, none⟩) nf nf], false, 1⟩, some ⟨[.int .i64 c], false, 1⟩, some ⟨[.int .i64 f], false, 1⟩, some ⟨[.int .i64 t], false, 1⟩, some ⟨[.int .i64 x0, .int .i64 y0, .int .i64 pw, chV (5 + i) ch, .int .i64 per, .int .i64 fr, .int .i64 to'], true, 1⟩] hi8 hq
    have hqq : acQ c f t (⟨x0, y0, pw, ch, per, fr, to'⟩, i) = (y && z) := by unfold acQ; dsimp only; rw [hy, hz]
    clear ht
    cases y
    · rw [Bool.false_and] at hqq
      repeat' first | refine iw_listY (id := 3) 13 (by kernel_rfl) ?_ | refine And.intro (by rfl) ?_ | refine st (h := ok_load_rowsE (f := srR) (cs := [.int .i64 x0, .int .i64 y0, .int .i64 pw, chV (5 + i) ch, .int .i64 per, .int .i64 fr, .int .i64 to']) i (fun _ => rfl) hrow rfl rfl rfl rfl (by omega)) ?_ | refine stRW [5 + i] H ?_ (hargs := WkL.refl _) (hsub := SubM.ro hlv (WkL.ofEq (renL_map (fun _ => rfl) _).symm) SubM.nil) (hin := blt_of (show 5 + i < 18 by omega)) | refine st ?_ | refine stm ?_ | refine Jb ?_ | refine run_nil ?_ | refine iw_seq ?_ | refine iw_list (by kernel_rfl) ?_ | refine iw_block ?_ | refine iw_cond_tp rfl (by omega) ?_ | refine iw_skip ?_
      refine il_no (by kernel_rfl) (Sub.refl _) ⟨_, _, rfl, rfl, .inl ⟨_, rfl, rfl⟩⟩ ?_
      refine il_no (by kernel_rfl) (Sub.refl _) ⟨_, _, rfl, rfl, .inl ⟨_, rfl, rfl⟩⟩ ?_
      refine il_yes (by kernel_rfl) (by kernel_rfl) (Sub.refl _) (by first | exact rfl | exact ⟨_, _, rfl, rfl, .inl ⟨_, rfl, rfl⟩⟩) (by first | (apply ok_move; rfl) | (apply ok_not; rfl) | (apply ok_pick1; rfl; rfl) | (apply ok_pick; rfl; rfl; rfl)) ?_
      refine il_nil ?_
      repeat' first | refine And.intro (by rfl) ?_ | refine st ?_ | refine run_nil ?_ | refine iw_list (by kernel_rfl) ?_ | refine iw_cond_f rfl ?_ | refine iw_skip ?_
      refine ⟨ns - (i + 1), by omega, i + 1, rfl, by omega, rfl, (show Fits 17 _ [none, none, none, some ⟨srcs S, false, 1⟩, none, chB S 0, chB S 1, chB S 2, chB S 3, chB S 4, chB S 5, chB S 6, chB S 7, some ⟨[.slice (some ⟨3, 0, none⟩) ns ns, .slice (some ⟨4, 0, none⟩) nf nf], false, 1⟩, some ⟨[.int .i64 c], false, 1⟩, some ⟨[.int .i64 f], false, 1⟩, some ⟨[.int .i64 t], false, 1⟩] _ _ from fitsD [0, 1, 2, 3, 4, 5, 6, 7, 8, 9, 10, 11, 12, 13, 14, 15, 16] (h4 := (by (repeat (first | exact MemD.nil | apply MemD.hole | (apply MemD.blk; rfl; (first | exact WkL.refl _ | exact WkL.ofEq (renL_map (fun _ => rfl) _).symm | exact WkL.ofEq (renL_flat _).symm | exact WkL.ofEq (ren_srcs hS (gOf_id rfl)).symm); rfl)))))), ?_⟩
      rw [hxs, cnt_no hrow hqq]
    · cases z
      · skip
        repeat' first | refine iw_listY (id := 3) 13 (by kernel_rfl) ?_ | refine And.intro (by rfl) ?_ | refine st (h := ok_load_rowsE (f := srR) (cs := [.int .i64 x0, .int .i64 y0, .int .i64 pw, chV (5 + i) ch, .int .i64 per, .int .i64 fr, .int .i64 to']) i (fun _ => rfl) hrow rfl rfl rfl rfl (by omega)) ?_ | refine stRW [5 + i] H ?_ (hargs := WkL.refl _) (hsub := SubM.ro hlv (WkL.ofEq (renL_map (fun _ => rfl) _).symm) SubM.nil) (hin := blt_of (show 5 + i < 18 by omega)) | refine stRW [5 + i] H2 ?_ (hargs := WkL.refl _) (hsub := SubM.hole SubM.nil) (hin := blt_of (show 5 + i < 18 by omega)) | refine st ?_ | refine stm ?_ | refine Ja ?_ | refine Jb ?_ | refine run_nil ?_ | refine iw_seq ?_ | refine iw_list (by kernel_rfl) ?_ | refine iw_block ?_ | refine iw_cond_tp rfl (by omega) ?_ | refine iw_skip ?_
        refine il_no (by kernel_rfl) (Sub.refl _) ⟨_, _, rfl, rfl, .inl ⟨_, rfl, rfl⟩⟩ ?_
        refine il_no (by kernel_rfl) (Sub.refl _) ⟨_, _, rfl, rfl, .inl ⟨_, rfl, rfl⟩⟩ ?_
        refine il_yes (by kernel_rfl) (by kernel_rfl) (Sub.refl _) (by first | exact rfl | exact ⟨_, _, rfl, rfl, .inl ⟨_, rfl, rfl⟩⟩) (by first | (apply ok_move; rfl) | (apply ok_not; rfl) | (apply ok_pick1; rfl; rfl) | (apply ok_pick; rfl; rfl; rfl)) ?_
        refine il_nil ?_
        repeat' first | refine And.intro (by rfl) ?_ | refine st ?_ | refine run_nil ?_ | refine iw_list (by kernel_rfl) ?_ | refine iw_cond_f rfl ?_ | refine iw_skip ?_
        refine ⟨ns - (i + 1), by omega, i + 1, rfl, by omega, rfl, (show Fits 17 _ [none, none, none, some ⟨srcs S, false, 1⟩, none, chB S 0, chB S 1, chB S 2, chB S 3, chB S 4, chB S 5, chB S 6, chB S 7, some ⟨[.slice (some ⟨3, 0, none⟩) ns ns, .slice (some ⟨4, 0, none⟩) nf nf], false, 1⟩, some ⟨[.int .i64 c], false, 1⟩, some ⟨[.int .i64 f], false, 1⟩, some ⟨[.int .i64 t], false, 1⟩] _ _ from fitsD [0, 1, 2, 3, 4, 5, 6, 7, 8, 9, 10, 11, 12, 13, 14, 15, 16] (h4 := (by (repeat (first | exact MemD.nil | apply MemD.hole | (apply MemD.blk; rfl; (first | exact WkL.refl _ | exact WkL.ofEq (renL_map (fun _ => rfl) _).symm | exact WkL.ofEq (renL_flat _).symm | exact WkL.ofEq (ren_srcs hS (gOf_id rfl)).symm); rfl)))))), ?_⟩
        rw [hxs, cnt_no hrow hqq]
      · have hc := cnt_at (q := acQ c f t) hrow hqq
        obtain ⟨hcl, hget⟩ := List.getElem?_eq_some_iff.1 hc
        have hnext := cnt_yes (q := acQ c f t) hrow hqq
        have hne := has_ne hy
        repeat' first | refine iw_listY (id := 3) 13 (by kernel_rfl) ?_ | refine And.intro (by rfl) ?_ | refine st (h := ok_load_rowsE (f := srR) (cs := [.int .i64 x0, .int .i64 y0, .int .i64 pw, chV (5 + i) ch, .int .i64 per, .int .i64 fr, .int .i64 to']) i (fun _ => rfl) hrow rfl rfl rfl rfl (by omega)) ?_ | refine stRW [5 + i] H ?_ (hargs := WkL.refl _) (hsub := SubM.ro hlv (WkL.ofEq (renL_map (fun _ => rfl) _).symm) SubM.nil) (hin := blt_of (show 5 + i < 18 by omega)) | refine stRW [5 + i] H2 ?_ (hargs := WkL.refl _) (hsub := SubM.hole SubM.nil) (hin := blt_of (show 5 + i < 18 by omega)) | refine st ?_ | refine stm ?_ | refine Ja ?_ | refine run_nil ?_ | refine iw_seq ?_ | refine iw_list (by kernel_rfl) ?_ | refine iw_block ?_ | refine iw_cond_tp rfl (by omega) ?_ | refine iw_skip ?_
        refine il_yield rfl rfl rfl ⟨cntI (acQ c f t) S.zipIdx i, hcl⟩ [(0, .func (.yield l) #[] #[]), (1, .pointer (some ⟨13, 0, none⟩)), (2, .pointer (some ⟨14, 0, none⟩)), (3, .pointer (some ⟨15, 0, none⟩)), (4, .pointer (some ⟨16, 0, none⟩)), (9, .slice (some ⟨3, 0, none⟩) ns ns), (10, .int .i64 ns), (11, .int .i64 i), (25, .bool true)] [(25, .bool true)] hY ⟨_, _, rfl, rfl, .inl ⟨_, rfl, rfl⟩⟩ rfl (by show [some _] = [some (srV (List.get _ _))]; rw [show List.get _ ⟨cntI (acQ c f t) S.zipIdx i, hcl⟩ = _ from hget]; exact congrArg (fun q => [some (Value.agg #[_, _, _, q, _, _, _])]) (chV_pos _ rfl hne)) (by show List.all [srV (List.get _ _)] _ = true; rw [show List.get _ ⟨cntI (acQ c f t) S.zipIdx i, hcl⟩ = _ from hget]; exact srV_lt hi8) (pr_lt hxs hcl) (by repeat (first | exact sub_nil | refine sub_cons rfl ?_)) rfl (by repeat (first | exact sub_nil | refine sub_cons rfl ?_)) rfl (fun x hx => ?_) (fun x hx => ?_)
        · refine il_yes (by kernel_rfl) (by kernel_rfl) (Sub.refl _) (by first | exact rfl | exact ⟨_, _, rfl, rfl, .inl ⟨_, rfl, rfl⟩⟩) (by first | (apply ok_move; rfl) | (apply ok_not; rfl) | (apply ok_pick1; rfl; rfl) | (apply ok_pick; rfl; rfl; rfl)) ?_
          refine il_yes (by kernel_rfl) (by kernel_rfl) (Sub.refl _) (by first | exact rfl | exact ⟨_, _, rfl, rfl, .inl ⟨_, rfl, rfl⟩⟩) (by first | (apply ok_move; rfl) | (apply ok_not; rfl) | (apply ok_pick1; rfl; rfl) | (apply ok_pick; rfl; rfl; rfl)) ?_
          refine il_nil ?_
          repeat' first | refine And.intro (by rfl) ?_ | refine st ?_ | refine run_nil ?_ | refine iw_list (by kernel_rfl) ?_ | refine iw_cond_f rfl ?_ | refine iw_skip ?_
          refine ⟨ns - (i + 1), by omega, i + 1, rfl, by omega, rfl, (show Fits 17 _ [none, none, none, some ⟨srcs S, false, 1⟩, none, chB S 0, chB S 1, chB S 2, chB S 3, chB S 4, chB S 5, chB S 6, chB S 7, some ⟨[.slice (some ⟨3, 0, none⟩) ns ns, .slice (some ⟨4, 0, none⟩) nf nf], false, 1⟩, some ⟨[.int .i64 c], false, 1⟩, some ⟨[.int .i64 f], false, 1⟩, some ⟨[.int .i64 t], false, 1⟩] _ [none, none, none, some ⟨srcs S, false, 1⟩, none, chB S 0, chB S 1, chB S 2, chB S 3, chB S 4, chB S 5, chB S 6, chB S 7, some ⟨[.slice (some ⟨3, 0, none⟩) ns ns, .slice (some ⟨4, 0, none⟩) nf nf], false, 1⟩, some ⟨[.int .i64 c], false, 1⟩, some ⟨[.int .i64 f], false, 1⟩, some ⟨[.int .i64 t], false, 1⟩] from fitsD [0, 1, 2, 3, 4, 5, 6, 7, 8, 9, 10, 11, 12, 13, 14, 15, 16] (h4 := (by (repeat (first | exact MemD.nil | apply MemD.hole | (apply MemD.blk; rfl; (first | exact WkL.refl _ | exact WkL.ofEq (renL_map (fun _ => rfl) _).symm | exact WkL.ofEq (renL_flat _).symm | exact WkL.ofEq (ren_srcs hS (gOf_id rfl)).symm); rfl)))))), ?_⟩
          rw [hnext]
          exact pr_next hxs hx
        · refine il_yes (by kernel_rfl) (by kernel_rfl) (Sub.refl _) (by first | exact rfl | exact ⟨_, _, rfl, rfl, .inl ⟨_, rfl, rfl⟩⟩) (by first | (apply ok_move; rfl) | (apply ok_not; rfl) | (apply ok_pick1; rfl; rfl) | (apply ok_pick; rfl; rfl; rfl)) ?_
          refine il_yes (by kernel_rfl) (by kernel_rfl) (Sub.refl _) (by first | exact rfl | exact ⟨_, _, rfl, rfl, .inl ⟨_, rfl, rfl⟩⟩) (by first | (apply ok_move; rfl) | (apply ok_not; rfl) | (apply ok_pick1; rfl; rfl) | (apply ok_pick; rfl; rfl; rfl)) ?_
          refine il_nil ?_
          repeat' first | refine iw_cond_t rfl ?_ | refine iw_ret ?_
          exact ⟨.inr rfl, fun h => by cases h⟩
  · obtain rfl : i = ns := by omega
    repeat' first | refine And.intro (by rfl) ?_ | refine st ?_ | refine run_nil ?_ | refine iw_seq ?_ | refine iw_list (by kernel_rfl) ?_ | refine iw_cond_fp rfl (by omega) ?_ | refine iw_exit ?_
    refine (show (Exit.normal = Exit.normal ∨ Exit.normal = Exit.ret) ∧ (true = true → pr xs = List.finRange _) from ⟨.inl rfl, fun _ => ?_⟩)
    rw [hxs, ← hns, show S.length = S.zipIdx.length by simp, cnt_all, List.take_of_length_le (by rw [List.length_finRange]; exact Nat.le_refl _)]
theorem ac_active (ns nf : Nat) (c f t : Int) : ACalls Tryz.prog 113 [.agg #[.slice (some ⟨3, 0, none⟩) ns ns, .slice (some ⟨4, 0, none⟩) nf nf], .int .i64 c, .int .i64 f, .int .i64 t] [none, none, none, none, none, none, none, none, none, none, none, none, none] (.func (.func 122) #[] #[.pointer (some ⟨13, 0, none⟩), .pointer (some ⟨14, 0, none⟩), .pointer (some ⟨15, 0, none⟩), .pointer (some ⟨16, 0, none⟩)]) [none, none, none, none, none, none, none, none, none, none, none, none, none, some ⟨[.slice (some ⟨3, 0, none⟩) ns ns, .slice (some ⟨4, 0, none⟩) nf nf], true, 1⟩, some ⟨[.int .i64 c], true, 1⟩, some ⟨[.int .i64 f], true, 1⟩, some ⟨[.int .i64 t], true, 1⟩] := by
  refine acalls_of_aw Tryz.func113 rfl rfl ?_
  repeat' first | refine st ?_ | refine st (h := ok_makeFunc (by ((repeat (apply ArgsR.cons; rfl)); exact ArgsR.nil)) (by ((repeat (apply ArgsR.cons; rfl)); exact ArgsR.nil))) ?_ | refine stm ?_ | refine run_nil ?_ | refine Jz ?_ | refine Jw ?_ | refine aw_ret ?_
  all_goals exact pm_ret _ (renumD [0, 1, 2, 3, 4, 5, 6, 7, 8, 9, 10, 11, 12, 13, 14, 15, 16]) rfl
end Go.Proofs.YtdenooeaiicheaaGreat
