/- What senders emit. -/
import Derived.Test.YtdenooeaiicheaaGreatVL
import Derived.Test.YtdenooeaiicheaaGreatZ3
import Derived.Test.YtdenooeaiicheaaGreatQ2
import Derived.Test.YtdenooeaiicheaaGreatG4
set_option linter.unusedVariables false
set_option linter.unusedSimpArgs false
namespace Go.Proofs.YtdenooeaiicheaaGreat
open Go Av
set_option maxRecDepth 20000
structure Sn where
  nd : Int
  of' : Int
  co : Int
  cd : Int
  kd : Int
  g1 : Int
  g2 : Int
  g3 : Int
  g4 : Int
  g5 : Int
  g6 : Int
  g7 : Int
  g8 : Int
  g9 : Int
  g10 : Int
  dt : ByteArray
def snC (s : Sn) : List Value := [.int .i64 s.nd, .int .i64 s.of', .int .i64 s.co, .int .i64 s.cd, .int .i64 s.kd, .int .i64 s.g1, .int .i64 s.g2, .int .i64 s.g3, .int .i64 s.g4, .int .i64 s.g5, .int .i64 s.g6, .int .i64 s.g7, .int .i64 s.g8, .int .i64 s.g9, .int .i64 s.g10, .string s.dt]
instance : RenF snC := ⟨fun _ _ => rfl⟩
structure Oe where
  i : Nat
  E : List Em
theorem chooseN {α : Type} {β γ : Type} {p : α → β → γ → Prop} (h : ∀ a, ∃ b c, p a b c) : ∃ (f : α → β) (g : α → γ), ∀ a, p a (f a) (g a) := ⟨fun a => (h a).choose, fun a => (h a).choose_spec.choose, fun a => (h a).choose_spec.choose_spec⟩
set_option maxHeartbeats 16000000 in
theorem ac_emis (l : List Sn) (n : Nat) (hn : l.length = n) (hb : n ≤ 1000) (hl : ∀ s ∈ l, s.dt.size ≤ 1000) (ve fi un : Int) (C : List Int) (c : Nat) (hc : C.length = c) (hcb : c ≤ 1000000) (slot : Int) :
    ACalls Tryz.prog 5 [.slice (some ⟨0, 0, none⟩) n n, .agg #[.int .i64 ve, .int .i64 fi, .int .i64 un, .slice (some ⟨1, 0, none⟩) c c], .int .i64 slot] [some ⟨l.flatMap snC, false, 1⟩, some ⟨List.map (Value.int .i64) C, false, 1⟩] (.tuple #[.slice none 0 0, .bool false]) [none, none] ∨ ∃ E : List Em, E.length = n ∧ ACalls Tryz.prog 5 [.slice (some ⟨0, 0, none⟩) n n, .agg #[.int .i64 ve, .int .i64 fi, .int .i64 un, .slice (some ⟨1, 0, none⟩) c c], .int .i64 slot] [some ⟨l.flatMap snC, false, 1⟩, some ⟨List.map (Value.int .i64) C, false, 1⟩] (.tuple #[.slice (some ⟨2, 0, none⟩) n n, .bool true]) [none, none, some ⟨E.flatMap emC, true, 4⟩] := by
  obtain ⟨cv, ce, hC⟩ := chooseN fun o => ac_hopChE ve fi un C c hc hcb slot o
  obtain ⟨tv, te, hT⟩ : ∃ (tv te : Sn → Int), ∀ s : Sn, s.dt.size ≤ 1000 → ACalls Tryz.prog 13 [.agg #[.int .i64 s.kd, .int .i64 s.g1, .int .i64 s.g2, .int .i64 s.g3, .int .i64 s.g4, .int .i64 s.g5, .int .i64 s.g6, .int .i64 s.g7, .int .i64 s.g8, .int .i64 s.g9, .int .i64 s.g10, .string s.dt]] [] (.tuple #[.int .i64 (tv s), .int .i64 (te s)]) [] := by
    refine chooseN (p := fun (s : Sn) (a b : Int) => s.dt.size ≤ 1000 → ACalls Tryz.prog 13 [.agg #[.int .i64 s.kd, .int .i64 s.g1, .int .i64 s.g2, .int .i64 s.g3, .int .i64 s.g4, .int .i64 s.g5, .int .i64 s.g6, .int .i64 s.g7, .int .i64 s.g8, .int .i64 s.g9, .int .i64 s.g10, .string s.dt]] [] (.tuple #[.int .i64 a, .int .i64 b]) []) fun s => ?_
    by_cases h : s.dt.size ≤ 1000
    · obtain ⟨v, e, hh⟩ := ac_Time s.kd s.g1 s.g2 s.g3 s.g4 s.g5 s.g6 s.g7 s.g8 s.g9 s.g10 s.dt h
      exact ⟨v, e, fun _ => hh⟩
    · exact ⟨0, 0, fun h' => absurd h' h⟩
  obtain ⟨badE, hbE⟩ : ∃ b : Sn → Bool, b = fun s => decide (IntKind.i64.wrap (IntKind.i64.wrap (ce s.of' + seE s.co s.cd slot) + te s) ≠ 0) := ⟨_, rfl⟩
  by_cases hbad : ∃ (j : Nat) (s : Sn), l[j]? = some s ∧ badE s = true
  · left
    refine acalls_law Tryz.func5 rfl rfl rfl ?_
    refine aw_ghost 4 rfl ?_
    repeat' first | refine st ?_ | refine stm ?_ | refine run_nil ?_ | refine Jz ?_ | refine Jw ?_ | refine aw_block ?_
    refine aw_loopg
      (S := fun y : Oe => [(2, .int .i64 slot), (4, .pointer (some ⟨3, 0, none⟩)), (8, .slice (some ⟨2, 0, none⟩) y.i y.i), (17, .slice (some ⟨0, 0, none⟩) n n), (18, .int .i64 n), (19, .int .i64 y.i)]) (B := fun y : Oe => [some ⟨l.flatMap snC, false, 1⟩, some ⟨List.map (Value.int .i64) C, false, 1⟩, some ⟨y.E.flatMap emC, true, 4⟩, some ⟨[.int .i64 ve, .int .i64 fi, .int .i64 un, .slice (some ⟨1, 0, none⟩) c c], true, 1⟩])
      (R := fun y : Oe => y.i ≤ n ∧ y.E.length = y.i ∧ ∃ (j : Nat) (s : Sn), y.i ≤ j ∧ l[j]? = some s ∧ badE s = true)
      (μ := fun y : Oe => n - y.i) ⟨0, []⟩ (fitsD [0, 1, 2, 3]) ⟨Nat.zero_le _, rfl, by obtain ⟨j, s, h1, h2⟩ := hbad; exact ⟨j, s, Nat.zero_le _, h1, h2⟩⟩ ?_
    clear hbad
    rintro ⟨i, Ei⟩ ⟨q1, gE, q2⟩
    dsimp only at *
    have hi : i < n := by
      obtain ⟨j, s, h1, h2, _⟩ := q2
      have := (List.getElem?_eq_some_iff.1 h2).1
      omega
    subst hbE
    dsimp only at q2
    obtain ⟨⟨nd, of', co, cd, kd, g1, g2, g3, g4, g5, g6, g7, g8, g9, g10, dt⟩, hq⟩ : ∃ q, l[i]? = some q := ⟨_, List.getElem?_eq_getElem (by omega)⟩
    have HC := hC of'
    have HS := ac_send co cd slot _ _ rfl rfl
    have HT := hT ⟨nd, of', co, cd, kd, g1, g2, g3, g4, g5, g6, g7, g8, g9, g10, dt⟩ (hl _ (List.mem_of_getElem? hq))
    dsimp only at HT
    have hbad : (fun s : Sn => decide (IntKind.i64.wrap (IntKind.i64.wrap (ce s.of' + seE s.co s.cd slot) + te s) ≠ 0)) ⟨nd, of', co, cd, kd, g1, g2, g3, g4, g5, g6, g7, g8, g9, g10, dt⟩ = decide (IntKind.i64.wrap (IntKind.i64.wrap (ce of' + seE co cd slot) + te ⟨nd, of', co, cd, kd, g1, g2, g3, g4, g5, g6, g7, g8, g9, g10, dt⟩) ≠ 0) := rfl
    obtain ⟨c1, hc1⟩ : ∃ z, cv of' = z := ⟨_, rfl⟩
    obtain ⟨e1, he1⟩ : ∃ z, ce of' = z := ⟨_, rfl⟩
    obtain ⟨f1, hf1⟩ : ∃ z, seI co cd slot = z := ⟨_, rfl⟩
    obtain ⟨e2, he2⟩ : ∃ z, seE co cd slot = z := ⟨_, rfl⟩
    obtain ⟨t1, ht1⟩ : ∃ z, tv ⟨nd, of', co, cd, kd, g1, g2, g3, g4, g5, g6, g7, g8, g9, g10, dt⟩ = z := ⟨_, rfl⟩
    obtain ⟨e3, he3⟩ : ∃ z, te ⟨nd, of', co, cd, kd, g1, g2, g3, g4, g5, g6, g7, g8, g9, g10, dt⟩ = z := ⟨_, rfl⟩
    rw [hc1, he1] at HC
    rw [hf1, he2] at HS
    rw [ht1, he3] at HT
    rw [he1, he2, he3] at hbad
    clear hc1 he1 hf1 he2 ht1 he3
    obtain ⟨z, hz⟩ : ∃ z, IntKind.i64.wrap (IntKind.i64.wrap (e1 + e2) + e3) = z := ⟨_, rfl⟩
    by_cases hz0 : z = 0
    · have q3 : ∃ (j : Nat) (s : Sn), i + 1 ≤ j ∧ l[j]? = some s ∧ decide (IntKind.i64.wrap (IntKind.i64.wrap (ce s.of' + seE s.co s.cd slot) + te s) ≠ 0) = true := by
        obtain ⟨j, s, h1, h2, h3⟩ := q2
        refine ⟨j, s, ?_, h2, h3⟩
        rcases Nat.lt_or_ge i j with h | h
        · exact h
        · exfalso
          obtain rfl : j = i := by omega
          rw [hq] at h2
          cases h2
          have h4 := of_decide_eq_true (hbad.symm.trans h3)
          exact h4 (hz.trans hz0)
      clear hbad q2
      repeat' first | refine st (h := ok_load_rowsE (f := snC) (cs := [.int .i64 nd, .int .i64 of', .int .i64 co, .int .i64 cd, .int .i64 kd, .int .i64 g1, .int .i64 g2, .int .i64 g3, .int .i64 g4, .int .i64 g5, .int .i64 g6, .int .i64 g7, .int .i64 g8, .int .i64 g9, .int .i64 g10, .string dt]) i (fun _ => rfl) hq rfl rfl rfl rfl (by omega)) ?_ | refine st (h := ok_add (d := some 46) rfl rfl) ?_ | refine st (h := ok_add (d := some 48) rfl rfl) ?_ | refine st (h := ok_add (d := some 57) rfl rfl) ?_ | refine stm (h := by (apply ok_append (cs := (Ei ++ [Em.mk nd c1 f1 (IntKind.i64.wrap (f1 + t1))]).flatMap emC) (olds := Ei.flatMap emC); rfl; rfl; rfl; rfl; rfl; rfl; (focus (apply Src.slc; rfl; exact Ty.eq; rfl; exact Nat.le_of_ble_eq_true rfl; exact TakeR.eq (by ((repeat constructor); first | done | fail)); rfl; rfl)); (focus (rw [emC_all]; omega)); (focus (exact emC_take gE)); (focus (rw [List.flatMap_append]; rfl)); omega; (focus ((repeat constructor); first | done | fail)))) ?_ | refine st ?_ | refine stRW [1] HC ?_ | refine st_call (HS) ?_ | refine st_call (HT) ?_ | refine stm ?_ | refine run_nil ?_ | refine Jz ?_ | refine Jw ?_ | refine aw_block ?_ | refine Js ?_ | refine Jt ?_ | refine Jy ?_
      all_goals first | exact Exists.intro ⟨i + 1, Ei ++ [⟨nd, c1, f1, IntKind.i64.wrap (f1 + t1)⟩]⟩ ⟨fitsD [0, 1, 6, 3], ⟨hi, by rw [List.length_append, gE]; rfl, q3⟩, by dsimp only; omega⟩
    · clear hbad q2
      repeat' first | refine st (h := ok_load_rowsE (f := snC) (cs := [.int .i64 nd, .int .i64 of', .int .i64 co, .int .i64 cd, .int .i64 kd, .int .i64 g1, .int .i64 g2, .int .i64 g3, .int .i64 g4, .int .i64 g5, .int .i64 g6, .int .i64 g7, .int .i64 g8, .int .i64 g9, .int .i64 g10, .string dt]) i (fun _ => rfl) hq rfl rfl rfl rfl (by omega)) ?_ | refine st (h := ok_add (d := some 46) rfl rfl) ?_ | refine st (h := ok_add (d := some 48) rfl rfl) ?_ | refine st ?_ | refine stRW [1] HC ?_ | refine st_call (HS) ?_ | refine st_call (HT) ?_ | refine stm ?_ | refine run_nil ?_ | refine Jz ?_ | refine Jw ?_ | refine aw_block ?_ | refine Js ?_ | refine Jy ?_ | refine aw_ret ?_ | refine pp_ret ?_
      all_goals first
        | rfl
        | (exfalso; omega)
        | (refine congrArg Value.bool ?_; first | exact decide_eq_true (by omega) | exact decide_eq_false (by omega) | exact (decide_eq_true (by omega)).symm | exact (decide_eq_false (by omega)).symm)
        | (show Value.bool _ = Value.bool _; congr 1; first | exact decide_eq_true (by omega) | exact decide_eq_false (by omega) | exact (decide_eq_true (by omega)).symm | exact (decide_eq_false (by omega)).symm)
        | (simp [retOf]; done)
  · right
    have hgood : ∀ s ∈ l, badE s = false := fun s hs => by
      obtain ⟨j, hj⟩ := List.getElem?_of_mem hs
      cases h : badE s with
      | false => rfl
      | true => exact absurd ⟨j, s, hj, h⟩ hbad
    clear hbad
    refine ⟨l.map fun s => ⟨s.nd, cv s.of', seI s.co s.cd slot, IntKind.i64.wrap (seI s.co s.cd slot + tv s)⟩, by rw [List.length_map, hn], ?_⟩
    refine acalls_of_aw Tryz.func5 rfl rfl ?_
    refine aw_ghost 4 rfl ?_
    repeat' first | refine st ?_ | refine stm ?_ | refine run_nil ?_ | refine Jz ?_ | refine Jw ?_ | refine aw_block ?_
    refine aw_loopg
      (S := fun y : Oe => [(2, .int .i64 slot), (4, .pointer (some ⟨3, 0, none⟩)), (8, .slice (some ⟨2, 0, none⟩) y.i y.i), (17, .slice (some ⟨0, 0, none⟩) n n), (18, .int .i64 n), (19, .int .i64 y.i)]) (B := fun y : Oe => [some ⟨l.flatMap snC, false, 1⟩, some ⟨List.map (Value.int .i64) C, false, 1⟩, some ⟨y.E.flatMap emC, true, 4⟩, some ⟨[.int .i64 ve, .int .i64 fi, .int .i64 un, .slice (some ⟨1, 0, none⟩) c c], true, 1⟩])
      (R := fun y : Oe => y.i ≤ n ∧ y.E.length = y.i ∧ y.E = (l.take y.i).map fun s => ⟨s.nd, cv s.of', seI s.co s.cd slot, IntKind.i64.wrap (seI s.co s.cd slot + tv s)⟩)
      (μ := fun y : Oe => n - y.i) ⟨0, []⟩ (fitsD [0, 1, 2, 3]) ⟨Nat.zero_le _, rfl, rfl⟩ ?_
    rintro ⟨i, Ei⟩ ⟨q1, gE, q2⟩
    dsimp only at *
    by_cases hi : i < n
    rotate_left
    · obtain rfl : i = n := by omega
      rw [← hn, List.take_length] at q2
      subst q2
      repeat' first | refine st ?_ | refine run_nil ?_ | refine Jz ?_ | refine Jw ?_ | refine Jt ?_ | refine aw_exit ?_ | refine aw_ret ?_
      all_goals exact pm_ret _ (renumD [0, 1, 2]) rfl
    subst hbE
    dsimp only at hgood
    obtain ⟨⟨nd, of', co, cd, kd, g1, g2, g3, g4, g5, g6, g7, g8, g9, g10, dt⟩, hq⟩ : ∃ q, l[i]? = some q := ⟨_, List.getElem?_eq_getElem (by omega)⟩
    have HC := hC of'
    have HS := ac_send co cd slot _ _ rfl rfl
    have HT := hT ⟨nd, of', co, cd, kd, g1, g2, g3, g4, g5, g6, g7, g8, g9, g10, dt⟩ (hl _ (List.mem_of_getElem? hq))
    dsimp only at HT
    have hbad : (fun s : Sn => decide (IntKind.i64.wrap (IntKind.i64.wrap (ce s.of' + seE s.co s.cd slot) + te s) ≠ 0)) ⟨nd, of', co, cd, kd, g1, g2, g3, g4, g5, g6, g7, g8, g9, g10, dt⟩ = decide (IntKind.i64.wrap (IntKind.i64.wrap (ce of' + seE co cd slot) + te ⟨nd, of', co, cd, kd, g1, g2, g3, g4, g5, g6, g7, g8, g9, g10, dt⟩) ≠ 0) := rfl
    obtain ⟨c1, hc1⟩ : ∃ z, cv of' = z := ⟨_, rfl⟩
    obtain ⟨e1, he1⟩ : ∃ z, ce of' = z := ⟨_, rfl⟩
    obtain ⟨f1, hf1⟩ : ∃ z, seI co cd slot = z := ⟨_, rfl⟩
    obtain ⟨e2, he2⟩ : ∃ z, seE co cd slot = z := ⟨_, rfl⟩
    obtain ⟨t1, ht1⟩ : ∃ z, tv ⟨nd, of', co, cd, kd, g1, g2, g3, g4, g5, g6, g7, g8, g9, g10, dt⟩ = z := ⟨_, rfl⟩
    obtain ⟨e3, he3⟩ : ∃ z, te ⟨nd, of', co, cd, kd, g1, g2, g3, g4, g5, g6, g7, g8, g9, g10, dt⟩ = z := ⟨_, rfl⟩
    rw [hc1, he1] at HC
    rw [hf1, he2] at HS
    rw [ht1, he3] at HT
    rw [he1, he2, he3] at hbad
    clear he1 he2 he3
    obtain ⟨z, hz⟩ : ∃ z, IntKind.i64.wrap (IntKind.i64.wrap (e1 + e2) + e3) = z := ⟨_, rfl⟩
    have hz0 : z = 0 := by
      have h4 := of_decide_eq_false (hbad.symm.trans (hgood _ (List.mem_of_getElem? hq)))
      exact hz.symm.trans (Decidable.not_not.1 h4)
    have q3 : Ei ++ [⟨nd, c1, f1, IntKind.i64.wrap (f1 + t1)⟩] = (l.take (i + 1)).map fun s => ⟨s.nd, cv s.of', seI s.co s.cd slot, IntKind.i64.wrap (seI s.co s.cd slot + tv s)⟩ := by
      rw [take_one hq, List.map_append, ← q2]
      simp only [List.map_cons, List.map_nil]
      rw [hc1, hf1, ht1]
    clear hbad q2 hgood hc1 hf1 ht1
    repeat' first | refine st (h := ok_load_rowsE (f := snC) (cs := [.int .i64 nd, .int .i64 of', .int .i64 co, .int .i64 cd, .int .i64 kd, .int .i64 g1, .int .i64 g2, .int .i64 g3, .int .i64 g4, .int .i64 g5, .int .i64 g6, .int .i64 g7, .int .i64 g8, .int .i64 g9, .int .i64 g10, .string dt]) i (fun _ => rfl) hq rfl rfl rfl rfl (by omega)) ?_ | refine st (h := ok_add (d := some 46) rfl rfl) ?_ | refine st (h := ok_add (d := some 48) rfl rfl) ?_ | refine st (h := ok_add (d := some 57) rfl rfl) ?_ | refine stm (h := by (apply ok_append (cs := (Ei ++ [Em.mk nd c1 f1 (IntKind.i64.wrap (f1 + t1))]).flatMap emC) (olds := Ei.flatMap emC); rfl; rfl; rfl; rfl; rfl; rfl; (focus (apply Src.slc; rfl; exact Ty.eq; rfl; exact Nat.le_of_ble_eq_true rfl; exact TakeR.eq (by ((repeat constructor); first | done | fail)); rfl; rfl)); (focus (rw [emC_all]; omega)); (focus (exact emC_take gE)); (focus (rw [List.flatMap_append]; rfl)); omega; (focus ((repeat constructor); first | done | fail)))) ?_ | refine st ?_ | refine stRW [1] HC ?_ | refine st_call (HS) ?_ | refine st_call (HT) ?_ | refine stm ?_ | refine run_nil ?_ | refine Jz ?_ | refine Jw ?_ | refine aw_block ?_ | refine Js ?_ | refine Jt ?_ | refine Jy ?_
    all_goals first | exact Exists.intro ⟨i + 1, Ei ++ [⟨nd, c1, f1, IntKind.i64.wrap (f1 + t1)⟩]⟩ ⟨fitsD [0, 1, 6, 3], ⟨hi, by rw [List.length_append, gE]; rfl, q3⟩, by dsimp only; omega⟩
end Go.Proofs.YtdenooeaiicheaaGreat
