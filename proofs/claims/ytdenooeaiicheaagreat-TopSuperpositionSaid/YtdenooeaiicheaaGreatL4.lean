/- The law. -/
import Derived.Test.YtdenooeaiicheaaGreatVL
import Derived.Test.YtdenooeaiicheaaGreatL2
import Derived.Test.YtdenooeaiicheaaGreatL3
import Derived.Test.YtdenooeaiicheaaGreatQ3
import Derived.Test.YtdenooeaiicheaaGreatZ3
set_option linter.unusedVariables false
set_option linter.unusedSimpArgs false
namespace Go.Proofs.YtdenooeaiicheaaGreat
open Go Av
set_option maxRecDepth 20000
theorem ok_subD {P : Program} {ρ : Operand → Option Value} {m : Mem} {dd : Option Tmp} {t : TypeId} {pp : String} {af : Array Edge} {g : Option (Nat × Bool)} {xt yt : TypeId} {x y : Operand} {a b q : Int} (hx : ρ x = some (.int .i64 a)) (hy : ρ y = some (.int .i64 b)) (he : a - b = q) (hr : -9223372036854775808 ≤ q ∧ q ≤ 9223372036854775807) : OpOK P ⟨dd, .binOp .sub xt x y yt, t, pp, af, g⟩ ρ m (.int .i64 q) m := by
  subst he
  exact ok_sub64 hx hy hr
set_option maxHeartbeats 64000000 in
theorem law_super (N : List P2) (Pw : List Int) (L : List Wl) (n p w : Nat) (hn : N.length = n) (hp : Pw.length = p) (hw : L.length = w) (ex no th : Int) (S : List Sr) (F : List Fd) (ns nf : Nat) (hns : S.length = ns) (hnf : F.length = nf) (C : List Int) (c : Nat) (hc : C.length = c) (ve fi un : Int) (l : List Sn) (nl : Nat) (hnl : l.length = nl) (slot si : Int)
    (hn8 : n ≤ 8) (hw8 : w ≤ 8) (hs8 : ns ≤ 8) (hf8 : nf ≤ 8) (hc20 : c ≤ 20) (hl8 : nl ≤ 8) (hsi : 0 ≤ si ∧ si < nl) : ACalls Tryz.prog 3 [.agg #[.slice (some ⟨0, 0, none⟩) n n, .slice (some ⟨1, 0, none⟩) p p, .slice (some ⟨2, 0, none⟩) w w, .int .i64 ex, .int .i64 no, .int .i64 th, .slice (some ⟨3, 0, none⟩) ns ns, .slice (some ⟨4, 0, none⟩) nf nf, .int .i64 ve, .int .i64 fi, .int .i64 un, .slice (some ⟨13, 0, none⟩) c c], .slice (some ⟨14, 0, none⟩) nl nl, .agg #[.int .i64 slot, .int .i64 si]] [some ⟨N.flatMap ptC, false, 1⟩, some ⟨List.map (Value.int .i64) Pw, false, 1⟩, some ⟨L.flatMap wlC, false, 1⟩, some ⟨srcs S, false, 1⟩, some ⟨F.flatMap fdC, false, 1⟩, chB S 0, chB S 1, chB S 2, chB S 3, chB S 4, chB S 5, chB S 6, chB S 7, some ⟨List.map (Value.int .i64) C, false, 1⟩, some ⟨l.flatMap snC, false, 1⟩] (.bool true) [none, none, none, none, none, none, none, none, none, none, none, none, none, none, none] := by
  have HW := ac_works
  have hS : S.length ≤ 8 := by omega
  refine acalls_law Tryz.func3 rfl rfl rfl ?_
  repeat' first | refine st ?_ | refine st_call (HW) ?_ | refine stm ?_ | refine Ja ?_ | refine Jf ?_ | refine run_nil ?_ | refine sd ?_ | refine sdl ?_ | refine rund_nil ?_ | refine Jz ?_ | refine Jw ?_ | refine Jx (id := 3) [0,1,0,4,3,31] 6 ?_ | refine aw_block ?_ | refine Jr ?_ | refine Jt ?_ | refine Jy ?_
  clear HW
  refine aw_loopg
    (S := fun y : Og => [(1, .slice (some ⟨14, 0, none⟩) nl nl), (3, .pointer (some ⟨15, 0, none⟩)), (5, .pointer (some ⟨16, 0, none⟩)), (7, .int .i64 slot), (8, .int .i64 si), (78, .slice (some ⟨3, 0, none⟩) ns ns), (79, .int .i64 ns), (80, .int .i64 y.i)]) (B := fun y : Og => [some ⟨N.flatMap ptC, false, 1⟩, some ⟨List.map (Value.int .i64) Pw, false, 1⟩, some ⟨L.flatMap wlC, false, 1⟩, some ⟨srcs S, false, 1⟩, some ⟨F.flatMap fdC, false, 1⟩, chB S 0, chB S 1, chB S 2, chB S 3, chB S 4, chB S 5, chB S 6, chB S 7, some ⟨List.map (Value.int .i64) C, false, 1⟩, some ⟨l.flatMap snC, false, 1⟩, some ⟨[.slice (some ⟨0, 0, none⟩) n n, .slice (some ⟨1, 0, none⟩) p p, .slice (some ⟨2, 0, none⟩) w w, .int .i64 ex, .int .i64 no, .int .i64 th, .slice (some ⟨3, 0, none⟩) ns ns, .slice (some ⟨4, 0, none⟩) nf nf, .int .i64 ve, .int .i64 fi, .int .i64 un, .slice (some ⟨13, 0, none⟩) c c], true, 1⟩, some ⟨[.int .i64 slot, .int .i64 si], true, 1⟩])
    (R := fun y : Og => y.i ≤ ns ∧ ∀ (j : Nat), j < y.i → ∀ s, S[j]? = some s → s.ch.length ≤ 20) (μ := fun y : Og => ns - y.i) ⟨0⟩ (fitsD [0, 1, 2, 3, 4, 5, 6, 7, 8, 9, 10, 11, 12, 13, 14, 15, 16] (h4 := (by (repeat (first | exact MemD.nil | apply MemD.hole | (apply MemD.blk; rfl; (first | exact WkL.refl _ | exact WkL.ofEq (renL_map (fun _ => rfl) _).symm | exact WkL.ofEq (renL_flat _).symm | exact WkL.ofEq (ren_srcs hS (gOf_id rfl)).symm); rfl)))))) ⟨Nat.zero_le _, fun j hj => absurd hj (Nat.not_lt_zero _)⟩ ?_
  rintro ⟨i⟩ ⟨g1, g2⟩
  dsimp only at *
  by_cases hi : i < ns
  · obtain ⟨⟨x0, y0, pw, ch, per, fr, to'⟩, hq⟩ : ∃ q, S[i]? = some q := ⟨_, List.getElem?_eq_getElem (by omega)⟩
    have hrow := row_of hq
    by_cases hch : ch.length ≤ 20
    · have g3 : ∀ (j : Nat), j < i + 1 → ∀ s, S[j]? = some s → s.ch.length ≤ 20 := fun j hj s hs => by
        rcases Nat.lt_or_ge j i with h | h
        · exact g2 j h s hs
        · obtain rfl : j = i := by omega
          rw [hq] at hs
          cases hs
          exact hch
      clear g2
      repeat' first | refine st (h := ok_load_rowsE (f := srR) (cs := [.int .i64 x0, .int .i64 y0, .int .i64 pw, chV (5 + i) ch, .int .i64 per, .int .i64 fr, .int .i64 to']) i (fun _ => rfl) hrow rfl rfl rfl rfl (by omega)) ?_ | refine st ?_ | refine stm ?_ | refine run_nil ?_ | refine Jz ?_ | refine Jw ?_ | refine aw_block ?_ | refine Js ?_ | refine Jt ?_ | refine Jy ?_
      all_goals first | exact Exists.intro ⟨i + 1⟩ ⟨fitsD [0, 1, 2, 3, 4, 5, 6, 7, 8, 9, 10, 11, 12, 13, 14, 15, 16] (h4 := (by (repeat (first | exact MemD.nil | apply MemD.hole | (apply MemD.blk; rfl; (first | exact WkL.refl _ | exact WkL.ofEq (renL_map (fun _ => rfl) _).symm | exact WkL.ofEq (renL_flat _).symm | exact WkL.ofEq (ren_srcs hS (gOf_id rfl)).symm); rfl))))), ⟨hi, g3⟩, by dsimp only; omega⟩
    · clear g2
      repeat' first | refine st (h := ok_load_rowsE (f := srR) (cs := [.int .i64 x0, .int .i64 y0, .int .i64 pw, chV (5 + i) ch, .int .i64 per, .int .i64 fr, .int .i64 to']) i (fun _ => rfl) hrow rfl rfl rfl rfl (by omega)) ?_ | refine st ?_ | refine stm ?_ | refine run_nil ?_ | refine Jz ?_ | refine Jw ?_ | refine aw_block ?_ | refine Js ?_ | refine Jy ?_ | refine aw_ret ?_ | refine pp_ret ?_
      all_goals first
        | rfl
        | (exfalso; omega)
        | (refine congrArg Value.bool ?_; first | exact decide_eq_true (by omega) | exact decide_eq_false (by omega) | exact (decide_eq_true (by omega)).symm | exact (decide_eq_false (by omega)).symm)
        | (show Value.bool _ = Value.bool _; congr 1; first | exact decide_eq_true (by omega) | exact decide_eq_false (by omega) | exact (decide_eq_true (by omega)).symm | exact (decide_eq_false (by omega)).symm)
        | (simp [retOf]; done)
  obtain rfl : ns = i := by omega
  have hch : chsL S := fun s hs => by
    obtain ⟨j, hj⟩ := List.getElem?_of_mem hs
    have := g2 j (by rw [← hns]; exact (List.getElem?_eq_some_iff.1 hj).1) s hj
    omega
  clear g1 g2 hi
  repeat' first | refine st ?_ | refine run_nil ?_ | refine Jz ?_ | refine Jw ?_ | refine aw_block ?_ | refine Jt ?_ | refine aw_exit ?_
  refine aw_loopg
    (S := fun y : Og => [(1, .slice (some ⟨14, 0, none⟩) nl nl), (3, .pointer (some ⟨15, 0, none⟩)), (5, .pointer (some ⟨16, 0, none⟩)), (7, .int .i64 slot), (8, .int .i64 si), (89, .slice (some ⟨14, 0, none⟩) nl nl), (90, .int .i64 nl), (91, .int .i64 y.i)]) (B := fun y : Og => [some ⟨N.flatMap ptC, false, 1⟩, some ⟨List.map (Value.int .i64) Pw, false, 1⟩, some ⟨L.flatMap wlC, false, 1⟩, some ⟨srcs S, false, 1⟩, some ⟨F.flatMap fdC, false, 1⟩, chB S 0, chB S 1, chB S 2, chB S 3, chB S 4, chB S 5, chB S 6, chB S 7, some ⟨List.map (Value.int .i64) C, false, 1⟩, some ⟨l.flatMap snC, false, 1⟩, some ⟨[.slice (some ⟨0, 0, none⟩) n n, .slice (some ⟨1, 0, none⟩) p p, .slice (some ⟨2, 0, none⟩) w w, .int .i64 ex, .int .i64 no, .int .i64 th, .slice (some ⟨3, 0, none⟩) ns ns, .slice (some ⟨4, 0, none⟩) nf nf, .int .i64 ve, .int .i64 fi, .int .i64 un, .slice (some ⟨13, 0, none⟩) c c], true, 1⟩, some ⟨[.int .i64 slot, .int .i64 si], true, 1⟩])
    (R := fun y : Og => y.i ≤ nl ∧ ∀ (j : Nat), j < y.i → ∀ s, l[j]? = some s → s.dt.size ≤ 200) (μ := fun y : Og => nl - y.i) ⟨0⟩ (fitsD [0, 1, 2, 3, 4, 5, 6, 7, 8, 9, 10, 11, 12, 13, 14, 15, 16] (h4 := (by (repeat (first | exact MemD.nil | apply MemD.hole | (apply MemD.blk; rfl; (first | exact WkL.refl _ | exact WkL.ofEq (renL_map (fun _ => rfl) _).symm | exact WkL.ofEq (renL_flat _).symm | exact WkL.ofEq (ren_srcs hS (gOf_id rfl)).symm); rfl)))))) ⟨Nat.zero_le _, fun j hj => absurd hj (Nat.not_lt_zero _)⟩ ?_
  rintro ⟨i⟩ ⟨q1, q2⟩
  dsimp only at *
  by_cases hi : i < nl
  · obtain ⟨⟨nd, of', co, cd, kd, g1, g2, g3, g4, g5, g6, g7, g8, g9, g10, dt⟩, hq⟩ : ∃ q, l[i]? = some q := ⟨_, List.getElem?_eq_getElem (by omega)⟩
    by_cases hd : dt.size ≤ 200
    · have q3 : ∀ (j : Nat), j < i + 1 → ∀ s, l[j]? = some s → s.dt.size ≤ 200 := fun j hj s hs => by
        rcases Nat.lt_or_ge j i with h | h
        · exact q2 j h s hs
        · obtain rfl : j = i := by omega
          rw [hq] at hs
          cases hs
          exact hd
      clear q2
      repeat' first | refine st (h := ok_load_rowsE (f := snC) (cs := [.int .i64 nd, .int .i64 of', .int .i64 co, .int .i64 cd, .int .i64 kd, .int .i64 g1, .int .i64 g2, .int .i64 g3, .int .i64 g4, .int .i64 g5, .int .i64 g6, .int .i64 g7, .int .i64 g8, .int .i64 g9, .int .i64 g10, .string dt]) i (fun _ => rfl) hq rfl rfl rfl rfl (by omega)) ?_ | refine st ?_ | refine stm ?_ | refine run_nil ?_ | refine Jz ?_ | refine Jw ?_ | refine aw_block ?_ | refine Js ?_ | refine Jt ?_ | refine Jy ?_
      all_goals first | exact Exists.intro ⟨i + 1⟩ ⟨fitsD [0, 1, 2, 3, 4, 5, 6, 7, 8, 9, 10, 11, 12, 13, 14, 15, 16] (h4 := (by (repeat (first | exact MemD.nil | apply MemD.hole | (apply MemD.blk; rfl; (first | exact WkL.refl _ | exact WkL.ofEq (renL_map (fun _ => rfl) _).symm | exact WkL.ofEq (renL_flat _).symm | exact WkL.ofEq (ren_srcs hS (gOf_id rfl)).symm); rfl))))), ⟨hi, q3⟩, by dsimp only; omega⟩
    · clear q2
      repeat' first | refine st (h := ok_load_rowsE (f := snC) (cs := [.int .i64 nd, .int .i64 of', .int .i64 co, .int .i64 cd, .int .i64 kd, .int .i64 g1, .int .i64 g2, .int .i64 g3, .int .i64 g4, .int .i64 g5, .int .i64 g6, .int .i64 g7, .int .i64 g8, .int .i64 g9, .int .i64 g10, .string dt]) i (fun _ => rfl) hq rfl rfl rfl rfl (by omega)) ?_ | refine st ?_ | refine stm ?_ | refine run_nil ?_ | refine Jz ?_ | refine Jw ?_ | refine aw_block ?_ | refine Js ?_ | refine Jy ?_ | refine aw_ret ?_ | refine pp_ret ?_
      all_goals first
        | rfl
        | (exfalso; omega)
        | (refine congrArg Value.bool ?_; first | exact decide_eq_true (by omega) | exact decide_eq_false (by omega) | exact (decide_eq_true (by omega)).symm | exact (decide_eq_false (by omega)).symm)
        | (show Value.bool _ = Value.bool _; congr 1; first | exact decide_eq_true (by omega) | exact decide_eq_false (by omega) | exact (decide_eq_true (by omega)).symm | exact (decide_eq_false (by omega)).symm)
        | (simp [retOf]; done)
  obtain rfl : nl = i := by omega
  have hl : ∀ s ∈ l, s.dt.size ≤ 1000 := fun s hs => by
    obtain ⟨j, hj⟩ := List.getElem?_of_mem hs
    have := q2 j (by rw [← hnl]; exact (List.getElem?_eq_some_iff.1 hj).1) s hj
    omega
  clear q1 q2 hi
  rcases ac_emis l nl hnl (by omega) hl ve fi un C c hc (by omega) slot with HE | ⟨E, hEl, HE⟩
  · skip
    repeat' first | refine st ?_ | refine stRW [14, 13] HE ?_ | refine run_nil ?_ | refine sd ?_ | refine Jl ?_ | refine rund_nil ?_ | refine Jz ?_ | refine Jw ?_ | refine Jx (id := 19) [0,1,3,7,15,7,39,7,135,511,1023,2047] 12 ?_ | refine Jq ?_ | refine Jt ?_ | refine aw_exit ?_ | refine aw_ret ?_ | refine pp_ret ?_
    all_goals first
      | rfl
      | (exfalso; omega)
      | (refine congrArg Value.bool ?_; first | exact decide_eq_true (by omega) | exact decide_eq_false (by omega) | exact (decide_eq_true (by omega)).symm | exact (decide_eq_false (by omega)).symm)
      | (show Value.bool _ = Value.bool _; congr 1; first | exact decide_eq_true (by omega) | exact decide_eq_false (by omega) | exact (decide_eq_true (by omega)).symm | exact (decide_eq_false (by omega)).symm)
      | (simp [retOf]; done)
  have HCL := ac_cloneE E nl hEl (by omega) (by omega)
  by_cases hp6 : p = n
  rotate_left
  · have HCK := ac_airCheckP N n p w ns nf nl hn (by omega) hp6 ex no th
    repeat' first | refine st ?_ | refine stMW [14, 13] HE ?_ | refine sdNR (r' := .slice (some ⟨18, 0, none⟩) nl nl) (N := [some ⟨E.flatMap emC, true, 4⟩]) [17] 1 HCL ?_ | refine sdRW [0, 1, 2, 3, 4, 5, 6, 7, 8, 9, 10, 11, 12, 18] HCK ?_ (hsub := by (repeat (first | exact SubM.nil | apply SubM.hole | (apply SubM.rw; rfl; (first | exact WkL.refl _ | exact WkL.ofEq (renL_map (fun _ => rfl) _).symm | exact WkL.ofEq (renL_flat _).symm | exact WkL.ofEq (ren_srcs hS (gOf_id rfl)).symm)) | (apply SubM.ro; rfl; (first | exact WkL.refl _ | exact WkL.ofEq (renL_map (fun _ => rfl) _).symm | exact WkL.ofEq (renL_flat _).symm | exact WkL.ofEq (ren_srcs hS (gOf_id rfl)).symm))))) | refine run_nil ?_ | refine sd ?_ | refine sdl ?_ | refine Jk ?_ | refine rund_nil ?_ | refine Jz ?_ | refine Jw ?_ | refine Jx (id := 19) [0,1,3,7,15,7,39,7,135,511,1023,2047] 12 ?_ | refine Jq ?_ | refine Jt ?_ | refine aw_exit ?_ | refine aw_ret ?_ | refine pp_ret ?_
    all_goals first
      | rfl
      | (exfalso; omega)
      | (refine congrArg Value.bool ?_; first | exact decide_eq_true (by omega) | exact decide_eq_false (by omega) | exact (decide_eq_true (by omega)).symm | exact (decide_eq_false (by omega)).symm)
      | (show Value.bool _ = Value.bool _; congr 1; first | exact decide_eq_true (by omega) | exact decide_eq_false (by omega) | exact (decide_eq_true (by omega)).symm | exact (decide_eq_false (by omega)).symm)
      | (simp [retOf]; done)
  obtain ⟨v, hv⟩ : ∃ v, airE N Pw L ex no th S F E = v := ⟨_, rfl⟩
  have HCK := ac_airCheck N Pw L n p w hn hp hw (by omega) ex no th S F ns nf hns hnf hS (by omega) hch E nl hEl (by omega) v hv
  by_cases hv0 : v = 0
  rotate_left
  · clear hv
    repeat' first | refine st ?_ | refine stMW [14, 13] HE ?_ | refine sdNR (r' := .slice (some ⟨18, 0, none⟩) nl nl) (N := [some ⟨E.flatMap emC, true, 4⟩]) [17] 1 HCL ?_ | refine sdRW [0, 1, 2, 3, 4, 5, 6, 7, 8, 9, 10, 11, 12, 18] HCK ?_ (hsub := by (repeat (first | exact SubM.nil | apply SubM.hole | (apply SubM.rw; rfl; (first | exact WkL.refl _ | exact WkL.ofEq (renL_map (fun _ => rfl) _).symm | exact WkL.ofEq (renL_flat _).symm | exact WkL.ofEq (ren_srcs hS (gOf_id rfl)).symm)) | (apply SubM.ro; rfl; (first | exact WkL.refl _ | exact WkL.ofEq (renL_map (fun _ => rfl) _).symm | exact WkL.ofEq (renL_flat _).symm | exact WkL.ofEq (ren_srcs hS (gOf_id rfl)).symm))))) | refine run_nil ?_ | refine sd ?_ | refine sdl ?_ | refine Jk ?_ | refine rund_nil ?_ | refine Jz ?_ | refine Jw ?_ | refine Jx (id := 19) [0,1,3,7,15,7,39,7,135,511,1023,2047] 12 ?_ | refine Js ?_ | refine Jt ?_ | refine aw_exit ?_ | refine aw_ret ?_ | refine pp_ret ?_
    all_goals first
      | rfl
      | (exfalso; omega)
      | (refine congrArg Value.bool ?_; first | exact decide_eq_true (by omega) | exact decide_eq_false (by omega) | exact (decide_eq_true (by omega)).symm | exact (decide_eq_false (by omega)).symm)
      | (show Value.bool _ = Value.bool _; congr 1; first | exact decide_eq_true (by omega) | exact decide_eq_false (by omega) | exact (decide_eq_true (by omega)).symm | exact (decide_eq_false (by omega)).symm)
      | (simp [retOf]; done)
  subst hv0
  obtain ⟨s0, rfl⟩ : ∃ s0 : Nat, si = s0 := ⟨si.toNat, by omega⟩
  have HDE := ac_deleteE E nl s0 hEl (by omega) (by omega)
  obtain ⟨m1, hm1⟩ : ∃ m1, s0 + (nl - (s0 + 1)) = m1 := ⟨_, rfl⟩
  rw [hm1] at HDE
  have hEr : (E.eraseIdx s0).length = m1 := by rw [List.length_eraseIdx_of_lt (by omega), hEl]; omega
  have hv' := air_less hv (List.eraseIdx_sublist E s0)
  repeat' first | refine st ?_ | refine stMW [14, 13] HE ?_ | refine sdNR (r' := .slice (some ⟨18, 0, none⟩) nl nl) (N := [some ⟨E.flatMap emC, true, 4⟩]) [17] 1 HCL ?_ | refine sdRW [0, 1, 2, 3, 4, 5, 6, 7, 8, 9, 10, 11, 12, 18] HCK ?_ (hsub := by (repeat (first | exact SubM.nil | apply SubM.hole | (apply SubM.rw; rfl; (first | exact WkL.refl _ | exact WkL.ofEq (renL_map (fun _ => rfl) _).symm | exact WkL.ofEq (renL_flat _).symm | exact WkL.ofEq (ren_srcs hS (gOf_id rfl)).symm)) | (apply SubM.ro; rfl; (first | exact WkL.refl _ | exact WkL.ofEq (renL_map (fun _ => rfl) _).symm | exact WkL.ofEq (renL_flat _).symm | exact WkL.ofEq (ren_srcs hS (gOf_id rfl)).symm))))) | refine stMW [17] HCL ?_ | refine stMW [19] HDE ?_ | refine run_nil ?_ | refine sd ?_ | refine sdl ?_ | refine Jk ?_ | refine rund_nil ?_ | refine Jz ?_ | refine Jw ?_ | refine Jx (id := 19) [0,1,3,7,15,7,39,7,135,511,1023,2047] 12 ?_ | refine aw_block ?_ | refine Jr ?_ | refine Jt ?_ | refine Jy ?_ | refine aw_exit ?_
  clear HCK HDE HE
  refine aw_loopg
    (S := fun y : Og => [(3, .pointer (some ⟨15, 0, none⟩)), (8, .int .i64 s0), (13, .slice (some ⟨17, 0, none⟩) nl nl), (15, .slice (some ⟨18, 0, none⟩) m1 m1), (127, .slice (some ⟨17, 0, none⟩) nl nl), (128, .int .i64 nl), (129, .int .i64 y.i)]) (B := fun y : Og => [some ⟨N.flatMap ptC, false, 1⟩, some ⟨List.map (Value.int .i64) Pw, false, 1⟩, some ⟨L.flatMap wlC, false, 1⟩, some ⟨srcs S, false, 1⟩, some ⟨F.flatMap fdC, false, 1⟩, chB S 0, chB S 1, chB S 2, chB S 3, chB S 4, chB S 5, chB S 6, chB S 7, some ⟨List.map (Value.int .i64) C, false, 1⟩, some ⟨l.flatMap snC, false, 1⟩, some ⟨[.slice (some ⟨0, 0, none⟩) n n, .slice (some ⟨1, 0, none⟩) p p, .slice (some ⟨2, 0, none⟩) w w, .int .i64 ex, .int .i64 no, .int .i64 th, .slice (some ⟨3, 0, none⟩) ns ns, .slice (some ⟨4, 0, none⟩) nf nf, .int .i64 ve, .int .i64 fi, .int .i64 un, .slice (some ⟨13, 0, none⟩) c c], true, 1⟩, some ⟨[.int .i64 slot, .int .i64 s0], true, 1⟩, some ⟨E.flatMap emC, true, 4⟩, some ⟨(E.eraseIdx s0).flatMap emC, true, 4⟩])
    (R := fun y : Og => y.i ≤ nl) (μ := fun y : Og => nl - y.i) ⟨0⟩ (fitsD [0, 1, 2, 3, 4, 5, 6, 7, 8, 9, 10, 11, 12, 13, 14, 15, 16, 17, 20] (h4 := (by (repeat (first | exact MemD.nil | apply MemD.hole | (apply MemD.blk; rfl; (first | exact WkL.refl _ | exact WkL.ofEq (renL_map (fun _ => rfl) _).symm | exact WkL.ofEq (renL_flat _).symm | exact WkL.ofEq (ren_srcs hS (gOf_id rfl)).symm); rfl)))))) (Nat.zero_le _) ?_
  rintro ⟨j⟩ w1
  dsimp only at *
  by_cases hj : j < nl
  rotate_left
  · skip
    repeat' first | refine st ?_ | refine run_nil ?_ | refine Jz ?_ | refine Jw ?_ | refine Jt ?_ | refine aw_exit ?_ | refine aw_ret ?_ | refine pp_ret ?_
    all_goals first
      | rfl
      | (exfalso; omega)
      | (refine congrArg Value.bool ?_; first | exact decide_eq_true (by omega) | exact decide_eq_false (by omega) | exact (decide_eq_true (by omega)).symm | exact (decide_eq_false (by omega)).symm)
      | (show Value.bool _ = Value.bool _; congr 1; first | exact decide_eq_true (by omega) | exact decide_eq_false (by omega) | exact (decide_eq_true (by omega)).symm | exact (decide_eq_false (by omega)).symm)
      | (simp [retOf]; done)
  by_cases hjs : j = s0
  · subst hjs
    repeat' first | refine st ?_ | refine run_nil ?_ | refine Jz ?_ | refine Jw ?_ | refine aw_block ?_ | refine Js ?_ | refine Jy ?_ | refine aw_exit ?_
    all_goals first | exact Exists.intro ⟨j + 1⟩ ⟨fitsD [0, 1, 2, 3, 4, 5, 6, 7, 8, 9, 10, 11, 12, 13, 14, 15, 16, 17, 18] (h4 := (by (repeat (first | exact MemD.nil | apply MemD.hole | (apply MemD.blk; rfl; (first | exact WkL.refl _ | exact WkL.ofEq (renL_map (fun _ => rfl) _).symm | exact WkL.ofEq (renL_flat _).symm | exact WkL.ofEq (ren_srcs hS (gOf_id rfl)).symm); rfl))))), hj, by dsimp only; omega⟩
  obtain ⟨⟨n0, c0, f0, t0⟩, hq⟩ : ∃ q, E[j]? = some q := ⟨_, List.getElem?_eq_getElem (by omega)⟩
  have hk := er_get E j s0 _ hjs hq
  have hki : (kAt j s0 : Int) = if s0 < j then (j : Int) - 1 else j := by unfold kAt; split <;> omega
  have hout := rcL_out ex no th N Pw L S F E j s0 ⟨n0, c0, f0, t0⟩ n hjs
  obtain ⟨k, hkk⟩ : ∃ k, kAt j s0 = k := ⟨_, rfl⟩
  rw [hkk] at hk hki hout
  obtain ⟨r1, hr1⟩ : ∃ r, rcL ex no th N Pw L S F E j ⟨n0, c0, f0, t0⟩ n = r := ⟨_, rfl⟩
  obtain ⟨r2, hr2⟩ : ∃ r, rcL ex no th N Pw L S F (E.eraseIdx s0) k ⟨n0, c0, f0, t0⟩ n = r := ⟨_, rfl⟩
  rw [hr1, hr2] at hout
  have HCL2 := ac_cloneE (E.eraseIdx s0) m1 hEr (by omega) (by omega)
  have HR1 := ac_Receivers N Pw L n p w hn hp hw (by omega) ex no th S F ns nf hns hnf hS (by omega) hch E nl hEl (by omega) hv j n0 c0 f0 t0 hq r1 hr1 r1.length rfl
  have HR2 := ac_Receivers N Pw L n p w hn hp hw (by omega) ex no th S F ns nf hns hnf hS (by omega) hch (E.eraseIdx s0) m1 hEr (by omega) hv' k n0 c0 f0 t0 hk r2 hr2 r2.length rfl
  have hb1 : r1.length ≤ 8 := by rw [← hr1]; unfold rcL; rw [List.length_map]; exact Nat.le_trans (List.length_filter_le _ _) (by rw [List.length_range]; exact hn8)
  have hb2 : r2.length ≤ 8 := by rw [← hr2]; unfold rcL; rw [List.length_map]; exact Nat.le_trans (List.length_filter_le _ _) (by rw [List.length_range]; exact hn8)
  obtain ⟨k1, hk1⟩ : ∃ k1, r1.length = k1 := ⟨_, rfl⟩
  obtain ⟨k2, hk2⟩ : ∃ k2, r2.length = k2 := ⟨_, rfl⟩
  rw [hk1] at HR1 hb1
  rw [hk2] at HR2 hb2
  have HCF := ac_cf_V r1 k1 hk1 (by omega) r2 k2 hk2 (by omega) false (decide_eq_false fun h => h hout)
  clear hv hv' hr1 hr2 hout hkk hk
  by_cases hgt : s0 < j
  · rw [if_pos hgt] at hki
    repeat' first | refine st (h := ok_subD (dd := some 140) rfl rfl hki.symm (by omega)) ?_ | refine st ?_ | refine sdNR (r' := .slice (some ⟨19, 0, none⟩) nl nl) (N := [some ⟨E.flatMap emC, true, 4⟩]) [17] 1 HCL ?_ | refine sdNR (r' := .tuple #[.slice (some ⟨20, 0, none⟩) k1 k1, .int .i64 0]) (N := [some ⟨List.map (Value.int .i64) r1, true, 1⟩]) [0, 1, 2, 3, 4, 5, 6, 7, 8, 9, 10, 11, 12, 19] 1 HR1 ?_ (hsub := by (repeat (first | exact SubM.nil | apply SubM.hole | (apply SubM.rw; rfl; (first | exact WkL.refl _ | exact WkL.ofEq (renL_map (fun _ => rfl) _).symm | exact WkL.ofEq (renL_flat _).symm | exact WkL.ofEq (ren_srcs hS (gOf_id rfl)).symm)) | (apply SubM.ro; rfl; (first | exact WkL.refl _ | exact WkL.ofEq (renL_map (fun _ => rfl) _).symm | exact WkL.ofEq (renL_flat _).symm | exact WkL.ofEq (ren_srcs hS (gOf_id rfl)).symm))))) | refine sdNR (r' := .slice (some ⟨21, 0, none⟩) m1 m1) (N := [some ⟨(E.eraseIdx s0).flatMap emC, true, 4⟩]) [18] 1 HCL2 ?_ | refine sdNR (r' := .tuple #[.slice (some ⟨22, 0, none⟩) k2 k2, .int .i64 0]) (N := [some ⟨List.map (Value.int .i64) r2, true, 1⟩]) [0, 1, 2, 3, 4, 5, 6, 7, 8, 9, 10, 11, 12, 21] 1 HR2 ?_ (hsub := by (repeat (first | exact SubM.nil | apply SubM.hole | (apply SubM.rw; rfl; (first | exact WkL.refl _ | exact WkL.ofEq (renL_map (fun _ => rfl) _).symm | exact WkL.ofEq (renL_flat _).symm | exact WkL.ofEq (ren_srcs hS (gOf_id rfl)).symm)) | (apply SubM.ro; rfl; (first | exact WkL.refl _ | exact WkL.ofEq (renL_map (fun _ => rfl) _).symm | exact WkL.ofEq (renL_flat _).symm | exact WkL.ofEq (ren_srcs hS (gOf_id rfl)).symm))))) | refine stRW [20, 23, 22] HCF ?_ | refine st (h := ok_makeFunc (by ((repeat (apply ArgsR.cons; rfl)); exact ArgsR.nil)) (by ((repeat (apply ArgsR.cons; rfl)); exact ArgsR.nil))) ?_ | refine Ja ?_ | refine run_nil ?_ | refine sd ?_ | refine sdl ?_ | refine sdm (n := 1) ?_ | refine sdb ?_ | refine rund_nil ?_ | refine Jz ?_ | refine Jw ?_ | refine Jx (id := 29) [0,1,0,4,0,16,0,127,255,511,511,1023,4095] 13 ?_ | refine Jx (id := 30) [0,1,0,4,0,16,0,127,255,511,511,0,3071,8191] 12 ?_ | refine aw_block ?_ | refine Jr ?_ | refine Js ?_ | refine Jt ?_ | refine Jy ?_
    all_goals first | exact Exists.intro ⟨j + 1⟩ ⟨fitsD [0, 1, 2, 3, 4, 5, 6, 7, 8, 9, 10, 11, 12, 13, 14, 15, 16, 17, 18] (h4 := (by (repeat (first | exact MemD.nil | apply MemD.hole | (apply MemD.blk; rfl; (first | exact WkL.refl _ | exact WkL.ofEq (renL_map (fun _ => rfl) _).symm | exact WkL.ofEq (renL_flat _).symm | exact WkL.ofEq (ren_srcs hS (gOf_id rfl)).symm); rfl))))), hj, by dsimp only; omega⟩
  · rw [if_neg hgt] at hki
    obtain rfl : k = j := by omega
    repeat' first | refine st ?_ | refine sdNR (r' := .slice (some ⟨19, 0, none⟩) nl nl) (N := [some ⟨E.flatMap emC, true, 4⟩]) [17] 1 HCL ?_ | refine sdNR (r' := .tuple #[.slice (some ⟨20, 0, none⟩) k1 k1, .int .i64 0]) (N := [some ⟨List.map (Value.int .i64) r1, true, 1⟩]) [0, 1, 2, 3, 4, 5, 6, 7, 8, 9, 10, 11, 12, 19] 1 HR1 ?_ (hsub := by (repeat (first | exact SubM.nil | apply SubM.hole | (apply SubM.rw; rfl; (first | exact WkL.refl _ | exact WkL.ofEq (renL_map (fun _ => rfl) _).symm | exact WkL.ofEq (renL_flat _).symm | exact WkL.ofEq (ren_srcs hS (gOf_id rfl)).symm)) | (apply SubM.ro; rfl; (first | exact WkL.refl _ | exact WkL.ofEq (renL_map (fun _ => rfl) _).symm | exact WkL.ofEq (renL_flat _).symm | exact WkL.ofEq (ren_srcs hS (gOf_id rfl)).symm))))) | refine sdNR (r' := .slice (some ⟨21, 0, none⟩) m1 m1) (N := [some ⟨(E.eraseIdx s0).flatMap emC, true, 4⟩]) [18] 1 HCL2 ?_ | refine sdNR (r' := .tuple #[.slice (some ⟨22, 0, none⟩) k2 k2, .int .i64 0]) (N := [some ⟨List.map (Value.int .i64) r2, true, 1⟩]) [0, 1, 2, 3, 4, 5, 6, 7, 8, 9, 10, 11, 12, 21] 1 HR2 ?_ (hsub := by (repeat (first | exact SubM.nil | apply SubM.hole | (apply SubM.rw; rfl; (first | exact WkL.refl _ | exact WkL.ofEq (renL_map (fun _ => rfl) _).symm | exact WkL.ofEq (renL_flat _).symm | exact WkL.ofEq (ren_srcs hS (gOf_id rfl)).symm)) | (apply SubM.ro; rfl; (first | exact WkL.refl _ | exact WkL.ofEq (renL_map (fun _ => rfl) _).symm | exact WkL.ofEq (renL_flat _).symm | exact WkL.ofEq (ren_srcs hS (gOf_id rfl)).symm))))) | refine stRW [20, 23, 22] HCF ?_ | refine st (h := ok_makeFunc (by ((repeat (apply ArgsR.cons; rfl)); exact ArgsR.nil)) (by ((repeat (apply ArgsR.cons; rfl)); exact ArgsR.nil))) ?_ | refine Ja ?_ | refine run_nil ?_ | refine sd ?_ | refine sdl ?_ | refine sdm (n := 1) ?_ | refine sdb ?_ | refine rund_nil ?_ | refine Jz ?_ | refine Jw ?_ | refine Jx (id := 29) [0,1,0,4,0,16,0,127,255,511,511,1023,4095] 13 ?_ | refine Jx (id := 30) [0,1,0,4,0,16,0,127,255,511,511,0,3071,8191] 12 ?_ | refine aw_block ?_ | refine Jr ?_ | refine Js ?_ | refine Jt ?_ | refine Jy ?_
    all_goals first | exact Exists.intro ⟨k + 1⟩ ⟨fitsD [0, 1, 2, 3, 4, 5, 6, 7, 8, 9, 10, 11, 12, 13, 14, 15, 16, 17, 18] (h4 := (by (repeat (first | exact MemD.nil | apply MemD.hole | (apply MemD.blk; rfl; (first | exact WkL.refl _ | exact WkL.ofEq (renL_map (fun _ => rfl) _).symm | exact WkL.ofEq (renL_flat _).symm | exact WkL.ofEq (ren_srcs hS (gOf_id rfl)).symm); rfl))))), hj, by dsimp only; omega⟩
end Go.Proofs.YtdenooeaiicheaaGreat
