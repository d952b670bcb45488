/- The channels of a list, going round: an iterator that may be left early. Hopping: Channel. -/
import Derived.Test.YtdenooeaiicheaaGreatVL
import Derived.Test.YtdenooeaiicheaaGreatVU
import Derived.Test.YtdenooeaiicheaaGreatT2
import Derived.Test.YtdenooeaiicheaaGreatTE
import Derived.Test.YtdenooeaiicheaaGreatT7
set_option linter.unusedVariables false
set_option linter.unusedSimpArgs false
namespace Go.Proofs.YtdenooeaiicheaaGreat
open Go Av
set_option maxRecDepth 20000
set_option maxHeartbeats 4000000 in
theorem it_roundP (C : List Int) (n : Nat) (t : Int) (hn : C.length = n) (hb : 1 ≤ n ∧ n ≤ 1000000) (ht : 0 ≤ t ∧ t ≤ 1000000000000000) :
    ItP Tryz.prog 65 [.pointer (some ⟨0, 0, none⟩), .pointer (some ⟨1, 0, none⟩)] [some ⟨[.slice (some ⟨2, 0, none⟩) n n], true, 1⟩, some ⟨[.int .i64 t], true, 1⟩, some ⟨List.map (Value.int .i64) C, false, 1⟩] C.length (rdE C t) (fun l => ∃ c, l = (List.finRange C.length).take c) := by
  refine itP_of Tryz.func65 rfl rfl rfl (ro_of rfl) fun μ l J Jx hY => ?_
  show IW _ _ _ _ _ _ _ _ _ [some ⟨[.slice (some ⟨2, 0, none⟩) n n], false, 1⟩, some ⟨[.int .i64 t], false, 1⟩, some ⟨List.map (Value.int .i64) C, false, 1⟩] _ _
  repeat' first | refine And.intro (by rfl) ?_ | refine st ?_ | refine run_nil ?_ | refine iw_seq ?_ | refine iw_list (by kernel_rfl) ?_ | refine iw_block ?_
  refine iw_loop (fun j σ m g xs => ∃ k, j = n - k ∧ k ≤ n ∧ g = true ∧ Fits 3 [(0, .func (.yield l) #[] #[]), (1, .pointer (some ⟨0, 0, none⟩)), (2, .pointer (some ⟨1, 0, none⟩)), (5, .slice (some ⟨2, 0, none⟩) n n), (6, .int .i64 n), (7, .int .i64 k)] [some ⟨[.slice (some ⟨2, 0, none⟩) n n], false, 1⟩, some ⟨[.int .i64 t], false, 1⟩, some ⟨List.map (Value.int .i64) C, false, 1⟩] σ m ∧ pr xs = (List.finRange _).take k) (k := n) ⟨0, by omega, by omega, rfl, fitsD [0, 1, 2], rfl⟩ ?_
  rintro j σ m g xs ⟨i, rfl, hk, rfl, hfit, hxs⟩
  refine iw_fits (B := [some ⟨[.slice (some ⟨2, 0, none⟩) n n], false, 1⟩, some ⟨[.int .i64 t], false, 1⟩, some ⟨List.map (Value.int .i64) C, false, 1⟩]) hfit rfl ?_
  by_cases hlt : i < n
  · have hm0 : 0 ≤ (t + i).tmod n := Int.tmod_nonneg _ (by omega)
    have hm1 : (t + i).tmod n < n := Int.tmod_lt_of_pos _ (by omega)
    obtain ⟨j, hj⟩ : ∃ j : Nat, (t + i).tmod n = j := ⟨_, (Int.toNat_of_nonneg hm0).symm⟩
    obtain ⟨v, hq⟩ : ∃ v, C[j]? = some v := ⟨_, List.getElem?_eq_getElem (by omega)⟩
    have hv : rdI C t i = v := by unfold rdI; rw [hn, hj, List.getD_eq_getElem?_getD]; show (C[j]?).getD 0 = v; rw [hq]; rfl
    have hcl : i < C.length := by omega
    repeat' first | refine iw_drawnY (id := 3) 10 [0, 0, 0, 0, 12, 0, 32, 124, 254, 510] 10 (by (repeat constructor)) (by kernel_rfl) (by kernel_rfl) (by kernel_rfl) (by kernel_rfl) ?_ | refine And.intro (by rfl) ?_ | refine sdl (h := ok_load_mapE (f := Value.int .i64) j hq rfl rfl rfl (by omega)) ?_ | refine sd (h := ok_remD rfl rfl (by omega) hj) ?_ | refine st ?_ | refine run_nil ?_ | refine sd ?_ | refine sdl ?_ | refine rund_nil ?_ | refine iw_seq ?_ | refine iw_list (by kernel_rfl) ?_ | refine iw_block ?_ | refine iw_cond_tp rfl (by omega) ?_ | refine iw_skip ?_
    refine ia_yield (i := 10) (by kernel_rfl) rfl rfl rfl rfl ⟨i, hcl⟩ [(0, .func (.yield l) #[] #[]), (1, .pointer (some ⟨0, 0, none⟩)), (2, .pointer (some ⟨1, 0, none⟩)), (5, .slice (some ⟨2, 0, none⟩) n n), (6, .int .i64 n), (7, .int .i64 i)] [] hY rfl rfl (by show [some _] = [some (Value.int .i64 (rdI C t i))]; rw [hv]) rfl (pr_lt hxs hcl) (by repeat (first | exact sub_nil | refine sub_cons rfl ?_)) rfl (by repeat (first | exact sub_nil | refine sub_cons rfl ?_)) rfl (fun x hx => ?_) (fun x hx => ?_)
    · refine ia_yes (i := 11) (by kernel_rfl) rfl (by kernel_rfl) (by kernel_rfl) (Sub.refl _) (by first | exact rfl | exact ⟨_, _, rfl, rfl, .inl ⟨_, rfl, rfl⟩⟩) (by first | (apply ok_move; rfl) | (apply ok_not; rfl) | (apply ok_pick1; rfl; rfl) | (apply ok_pick; rfl; rfl; rfl)) ?_
      refine ia_done (by kernel_rfl) ?_
      repeat' first | refine And.intro (by rfl) ?_ | refine st ?_ | refine run_nil ?_ | refine iw_list (by kernel_rfl) ?_ | refine iw_cond_f rfl ?_ | refine iw_skip ?_
      exact ⟨n - (i + 1), by omega, i + 1, rfl, by omega, rfl, (show Fits 3 _ [some ⟨[.slice (some ⟨2, 0, none⟩) n n], false, 1⟩, some ⟨[.int .i64 t], false, 1⟩, some ⟨List.map (Value.int .i64) C, false, 1⟩] _ [some ⟨[.slice (some ⟨2, 0, none⟩) n n], false, 1⟩, some ⟨[.int .i64 t], false, 1⟩, some ⟨List.map (Value.int .i64) C, false, 1⟩] from fitsD [0, 1, 2]), pr_next hxs hx⟩
    · refine ia_yes (i := 11) (by kernel_rfl) rfl (by kernel_rfl) (by kernel_rfl) (Sub.refl _) (by first | exact rfl | exact ⟨_, _, rfl, rfl, .inl ⟨_, rfl, rfl⟩⟩) (by first | (apply ok_move; rfl) | (apply ok_not; rfl) | (apply ok_pick1; rfl; rfl) | (apply ok_pick; rfl; rfl; rfl)) ?_
      refine ia_done (by kernel_rfl) ?_
      repeat' first | refine iw_cond_t rfl ?_ | refine iw_ret ?_
      exact ⟨.inr rfl, fun h => (by cases h), fun _ => ⟨_, pr_next hxs hx⟩⟩
  · obtain rfl : i = n := by omega
    repeat' first | refine And.intro (by rfl) ?_ | refine st ?_ | refine run_nil ?_ | refine iw_seq ?_ | refine iw_list (by kernel_rfl) ?_ | refine iw_cond_fp rfl (by omega) ?_ | refine iw_exit ?_
    refine (show (Exit.normal = Exit.normal ∨ Exit.normal = Exit.ret) ∧ (true = true → pr xs = List.finRange _) ∧ (true = false → ∃ c, pr xs = (List.finRange _).take c) from ⟨.inl rfl, fun _ => ?_, fun h => by cases h⟩)
    rw [hxs, List.take_of_length_le (by rw [List.length_finRange]; omega)]
end Go.Proofs.YtdenooeaiicheaaGreat
namespace Go.Proofs.YtdenooeaiicheaaGreat
open Go Av
set_option maxRecDepth 20000
/-- The channel that came last. -/
def lstI (C : List Int) (t : Int) (pre : List (Fin C.length)) : Int := match pre.getLast? with
  | some x => rdI C t x.val
  | none => 0
theorem lstI_snoc (C : List Int) (t : Int) (pre : List (Fin C.length)) (x : Fin C.length) : lstI C t (pre ++ [x]) = rdI C t x.val := by
  unfold lstI
  rw [List.getLast?_concat]
theorem lstI_take (C : List Int) (t : Int) (o c : Nat) (ho : o < C.length) (h : ((List.finRange C.length).take c).length = o + 1) : lstI C t ((List.finRange C.length).take c) = rdI C t o := by
  have h1 : (List.finRange C.length).take c = (List.finRange C.length).take (o + 1) := by
    rw [List.length_take, List.length_finRange] at h
    rcases Nat.lt_or_ge c C.length with hc | hc
    · rw [show c = o + 1 by omega]
    · have : C.length = o + 1 := by omega
      rw [List.take_of_length_le (by rw [List.length_finRange]; exact hc), List.take_of_length_le (by rw [List.length_finRange]; omega)]
  rw [h1, fin_take ho, lstI_snoc]
set_option maxHeartbeats 16000000 in
theorem ac_hopCh (ve fi un : Int) (C : List Int) (n : Nat) (hn : C.length = n) (hb : n ≤ 1000000) (slot : Int) (o : Nat) (hx : hpB ve fi un C = true) (hs : fi ≤ slot ∧ slot < un) (ho : o < n) (v : Int) (hv : rdI C (slot.tmod n) o = v) : ACalls Tryz.prog 15 [.agg #[.int .i64 ve, .int .i64 fi, .int .i64 un, .slice (some ⟨0, 0, none⟩) n n], .int .i64 slot, .int .i64 o] [some ⟨List.map (Value.int .i64) C, false, 1⟩] (.tuple #[.int .i64 v, .int .i64 0]) [none] := by
  have H1 := ac_hpCheck ve fi un C n hn (by omega) true hx
  rw [if_pos rfl] at H1
  have hnum : 0 ≤ fi ∧ un ≤ 109951163 := by
    unfold hpB at hx
    rw [Bool.and_eq_true] at hx
    have := of_decide_eq_true hx.1
    omega
  obtain ⟨tt, htt⟩ : ∃ tt, slot.tmod n = tt := ⟨_, rfl⟩
  have ht0 : 0 ≤ tt := by rw [← htt]; exact Int.tmod_nonneg _ (by omega)
  have ht1 : tt < n := by rw [← htt]; exact Int.tmod_lt_of_pos _ (by omega)
  rw [htt] at hv
  refine acalls_of_aw Tryz.func15 rfl rfl ?_
  clear hx
  repeat' first | refine sd (h := ok_remD rfl rfl (by omega) htt) ?_ | refine st ?_ | refine stRW [0] H1 ?_ | refine sdNR (r' := .func (.func 65) #[] #[.pointer (some ⟨4, 0, none⟩), .pointer (some ⟨5, 0, none⟩)]) (N := [some ⟨[.slice (some ⟨0, 0, none⟩) n n], true, 1⟩, some ⟨[.int .i64 tt], true, 1⟩]) [0] 2 (ac_round n tt) ?_ | refine stm ?_ | refine Ja ?_ | refine Jf ?_ | refine run_nil ?_ | refine sd ?_ | refine sdl ?_ | refine rund_nil ?_ | refine Jz ?_ | refine Jw ?_ | refine Jx (id := 8) [0,1,0,0,8,24,60,127] 8 ?_ | refine aw_block ?_ | refine Jr ?_ | refine Jt ?_ | refine Jy ?_
  refine aw_fits (σh := [(3, .pointer (some ⟨1, 0, none⟩)), (5, .pointer (some ⟨2, 0, none⟩)), (8, .pointer (some ⟨3, 0, none⟩)), (42, .func (.func 65) #[] #[.pointer (some ⟨4, 0, none⟩), .pointer (some ⟨5, 0, none⟩)])]) (mh := (fun pre : List (Fin C.length) => [some ⟨List.map (Value.int .i64) C, false, 1⟩, some ⟨[.int .i64 ve, .int .i64 fi, .int .i64 un, .slice (some ⟨0, 0, none⟩) n n], true, 1⟩, some ⟨[.int .i64 ((o : Int) - (pre.length : Nat))], true, 1⟩, some ⟨[.int .i64 (lstI C tt pre)], true, 1⟩, some ⟨[.slice (some ⟨0, 0, none⟩) n n], true, 1⟩, some ⟨[.int .i64 tt], true, 1⟩]) []) (fitsD [0, 1, 2, 3, 4, 5]) ?_
  refine aw_rangeP (gf := 65) (caps := [.pointer (some ⟨0, 0, none⟩), .pointer (some ⟨1, 0, none⟩)]) 6 6 (gOf [4, 5, 0] 6) (fun pre : List (Fin C.length) => [some ⟨List.map (Value.int .i64) C, false, 1⟩, some ⟨[.int .i64 ve, .int .i64 fi, .int .i64 un, .slice (some ⟨0, 0, none⟩) n n], true, 1⟩, some ⟨[.int .i64 ((o : Int) - (pre.length : Nat))], true, 1⟩, some ⟨[.int .i64 (lstI C tt pre)], true, 1⟩, some ⟨[.slice (some ⟨0, 0, none⟩) n n], true, 1⟩, some ⟨[.int .i64 tt], true, 1⟩]) (fun pre => pre.length ≤ o) (fun x => [(3, .pointer (some ⟨1, 0, none⟩)), (5, .pointer (some ⟨2, 0, none⟩)), (8, .pointer (some ⟨3, 0, none⟩)), (9, .int .i64 (rdI C tt x.val))]) (fun l e m' => e = .exit 1 ∧ l.length = o + 1 ∧ m' = [some ⟨List.map (Value.int .i64) C, false, 1⟩, some ⟨[.int .i64 ve, .int .i64 fi, .int .i64 un, .slice (some ⟨0, 0, none⟩) n n], true, 1⟩, some ⟨[.int .i64 (0)], true, 1⟩, some ⟨[.int .i64 (lstI C tt l)], true, 1⟩, some ⟨[.slice (some ⟨0, 0, none⟩) n n], true, 1⟩, some ⟨[.int .i64 tt], true, 1⟩])
    (it_roundP C n tt hn (by omega) (by omega)) rfl rfl (Nat.zero_le _) (by show 1 ≤ 6; omega) (Nat.le_refl _) (by show ∀ i, i < 3 → gOf [4, 5, 0] 6 i < 6; decide) rfl (fun _ => rfl) rfl rfl (by decide) (fun _ => rfl) (fun pre => ⟨rfl, noMap_of rfl, by show Renum 0 (gOf [4, 5, 0] (List.length ([some ⟨List.map (Value.int .i64) C, false, 1⟩, some ⟨[.int .i64 ve, .int .i64 fi, .int .i64 un, .slice (some ⟨0, 0, none⟩) n n], true, 1⟩, some ⟨[.int .i64 ((o : Int) - (pre.length : Nat))], true, 1⟩, some ⟨[.int .i64 (lstI C tt pre)], true, 1⟩, some ⟨[.slice (some ⟨0, 0, none⟩) n n], true, 1⟩, some ⟨[.int .i64 tt], true, 1⟩] : Mem))) ([some ⟨List.map (Value.int .i64) C, false, 1⟩, some ⟨[.int .i64 ve, .int .i64 fi, .int .i64 un, .slice (some ⟨0, 0, none⟩) n n], true, 1⟩, some ⟨[.int .i64 ((o : Int) - (pre.length : Nat))], true, 1⟩, some ⟨[.int .i64 (lstI C tt pre)], true, 1⟩, some ⟨[.slice (some ⟨0, 0, none⟩) n n], true, 1⟩, some ⟨[.int .i64 tt], true, 1⟩] : Mem) _; exact renumD [4, 5, 0]⟩) (fun l e m' h => by rw [h.2.2]; exact noMap_of rfl) ?_ ?_ ?_ ?_
  · intro pre x
    unfold rdE
    repeat' first | refine st ?_ | refine run_nil ?_ | refine Jw ?_
    all_goals exact ⟨rfl, fitsD [0, 1, 2, 3, 4, 5]⟩
  · intro pre x hR hpl
    have hl := lstI_snoc C tt pre x
    have hu : (o : Int) - ((pre ++ [x]).length : Nat) = (o : Int) - (pre.length : Nat) - 1 := by rw [List.length_append]; simp; omega
    have hL : (pre ++ [x]).length = pre.length + 1 := by rw [List.length_append]; rfl
    obtain ⟨q, hq⟩ : ∃ q, rdI C tt x.val = q := ⟨_, rfl⟩
    obtain ⟨k, hk⟩ : ∃ k, pre.length = k := ⟨_, rfl⟩
    obtain ⟨b, hb'⟩ : ∃ b, lstI C tt pre = b := ⟨_, rfl⟩
    rw [hq] at hl
    rw [hk] at hu hR hL
    rw [hu, hl, hL, hk, hq, hb']
    clear hu hl hL hk hq hb' hpl
    by_cases hz : k = o
    · subst hz
      repeat' first | refine st ?_ | refine stm ?_ | refine run_nil ?_ | refine Jz ?_ | refine Jw ?_ | refine aw_block ?_ | refine Js ?_ | refine aw_exit ?_
      all_goals first | exact .inr ⟨.inr ⟨1, rfl⟩, rfl, rfl, by show _ = _; rw [Int.sub_self]⟩
    · skip
      repeat' first | refine st ?_ | refine stm ?_ | refine run_nil ?_ | refine Jz ?_ | refine Jw ?_ | refine aw_block ?_ | refine Jt ?_ | refine Jy ?_
      all_goals first | exact .inl ⟨rfl, fitsD [0, 1, 2, 3, 4, 5], by show k + 1 ≤ o; omega⟩
  · intro hR
    exfalso
    rw [List.length_finRange] at hR
    omega
  · rintro l e m' ⟨c, hc⟩ ⟨rfl, hl, rfl⟩
    have hlv : lstI C tt l = v := by
      rw [hc] at hl ⊢
      rw [lstI_take C tt o c (by omega) hl, hv]
    rw [hlv]
    repeat' first | refine st ?_ | refine run_nil ?_ | refine Jz ?_ | refine Jw ?_ | refine aw_ret ?_
    all_goals exact pm_ret _ (renumD [0]) rfl
set_option maxHeartbeats 8000000 in
theorem ac_hopChX (ve fi un : Int) (C : List Int) (n : Nat) (hn : C.length = n) (hb : n ≤ 1000000) (slot o : Int) (h : ¬ (hpB ve fi un C = true ∧ (fi ≤ slot ∧ slot < un) ∧ 0 ≤ o ∧ o < n)) : ∃ e, ACalls Tryz.prog 15 [.agg #[.int .i64 ve, .int .i64 fi, .int .i64 un, .slice (some ⟨0, 0, none⟩) n n], .int .i64 slot, .int .i64 o] [some ⟨List.map (Value.int .i64) C, false, 1⟩] (.tuple #[.int .i64 0, .int .i64 e]) [none] := by
  obtain ⟨x, hx⟩ : ∃ x, hpB ve fi un C = x := ⟨_, rfl⟩
  have H1 := ac_hpCheck ve fi un C n hn (by omega) x hx
  cases x
  · refine ⟨1, ?_⟩
    clear h hx
    refine acalls_law Tryz.func15 rfl rfl rfl ?_
    repeat' first | refine st ?_ | refine stRW [0] H1 ?_ | refine stm ?_ | refine run_nil ?_ | refine Jz ?_ | refine Jw ?_ | refine aw_block ?_ | refine Jq ?_ | refine aw_ret ?_ | refine pp_ret ?_
    all_goals first
      | rfl
      | (exfalso; omega)
      | (refine congrArg Value.bool ?_; first | exact decide_eq_true (by omega) | exact decide_eq_false (by omega) | exact (decide_eq_true (by omega)).symm | exact (decide_eq_false (by omega)).symm)
      | (show Value.bool _ = Value.bool _; congr 1; first | exact decide_eq_true (by omega) | exact decide_eq_false (by omega) | exact (decide_eq_true (by omega)).symm | exact (decide_eq_false (by omega)).symm)
      | (simp [retOf]; done)
  by_cases hs : fi ≤ slot ∧ slot < un
  · have ho : ¬ (0 ≤ o ∧ o < n) := fun ho => h ⟨hx, hs, ho⟩
    refine ⟨2, ?_⟩
    clear h hx
    refine acalls_law Tryz.func15 rfl rfl rfl ?_
    repeat' first | intro h1 | refine st ?_ | refine stRW [0] H1 ?_ | refine stm ?_ | refine Ja ?_ | refine Jb ?_ | refine Jf ?_ | refine Ji ?_ ?_ | refine run_nil ?_ | refine Jz ?_ | refine Jw ?_ | refine aw_block ?_ | refine Jq ?_ | refine Jr ?_ | refine Js ?_ | refine Jt ?_ | refine aw_ret ?_ | refine pp_ret ?_
    all_goals first
      | rfl
      | (exfalso; omega)
      | (refine congrArg Value.bool ?_; first | exact decide_eq_true (by omega) | exact decide_eq_false (by omega) | exact (decide_eq_true (by omega)).symm | exact (decide_eq_false (by omega)).symm)
      | (show Value.bool _ = Value.bool _; congr 1; first | exact decide_eq_true (by omega) | exact decide_eq_false (by omega) | exact (decide_eq_true (by omega)).symm | exact (decide_eq_false (by omega)).symm)
      | (simp [retOf]; done)
  · refine ⟨12, ?_⟩
    clear h hx
    refine acalls_law Tryz.func15 rfl rfl rfl ?_
    repeat' first | intro h1 | refine st ?_ | refine stRW [0] H1 ?_ | refine stm ?_ | refine Ja ?_ | refine Jb ?_ | refine Ji ?_ ?_ | refine run_nil ?_ | refine Jz ?_ | refine Jw ?_ | refine aw_block ?_ | refine Jq ?_ | refine Jr ?_ | refine Js ?_ | refine aw_ret ?_ | refine pp_ret ?_
    all_goals first
      | rfl
      | (exfalso; omega)
      | (refine congrArg Value.bool ?_; first | exact decide_eq_true (by omega) | exact decide_eq_false (by omega) | exact (decide_eq_true (by omega)).symm | exact (decide_eq_false (by omega)).symm)
      | (show Value.bool _ = Value.bool _; congr 1; first | exact decide_eq_true (by omega) | exact decide_eq_false (by omega) | exact (decide_eq_true (by omega)).symm | exact (decide_eq_false (by omega)).symm)
      | (simp [retOf]; done)
theorem ac_hopChE (ve fi un : Int) (C : List Int) (n : Nat) (hn : C.length = n) (hb : n ≤ 1000000) (slot o : Int) : ∃ v e, ACalls Tryz.prog 15 [.agg #[.int .i64 ve, .int .i64 fi, .int .i64 un, .slice (some ⟨0, 0, none⟩) n n], .int .i64 slot, .int .i64 o] [some ⟨List.map (Value.int .i64) C, false, 1⟩] (.tuple #[.int .i64 v, .int .i64 e]) [none] := by
  by_cases h : hpB ve fi un C = true ∧ (fi ≤ slot ∧ slot < un) ∧ 0 ≤ o ∧ o < n
  · obtain ⟨k, rfl⟩ : ∃ k : Nat, o = k := ⟨o.toNat, by omega⟩
    exact ⟨_, 0, ac_hopCh ve fi un C n hn hb slot k h.1 h.2.1 (by omega) _ rfl⟩
  · obtain ⟨e, he⟩ := ac_hopChX ve fi un C n hn hb slot o h
    exact ⟨0, e, he⟩
end Go.Proofs.YtdenooeaiicheaaGreat
