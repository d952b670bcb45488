/- Transfer: Serve in its other cases; equal lists of updates. -/
import Derived.Test.YtekkdoaakilafaaVN
import Derived.Test.YtekkdoaakilafaaVAh
import Derived.Test.YtekkdoaakilafaaY4
set_option linter.unusedVariables false
set_option linter.unusedSimpArgs false
namespace Go.Proofs.Ytekkdoaakilafaa
open Go Av
set_option maxRecDepth 20000
set_option maxHeartbeats 8000000 in
/-- Serve, of what is wrong. -/
theorem ac_ServeX (s : Sto) (n p : Nat) (hn : s.L.length = n) (hp : s.P.length = p) (hb : n ≤ 1000000 ∧ p ≤ 1000000) (hbits : s.bits < 18446744073709551616) (hd : s.data.size ≤ 100000) (uk uv : Int) (ui : ByteArray) (up ut : Int) (ub : Nat) (ud : ByteArray) (c v : Bool) (hc : chS s = c) (hu : valU uk uv ui up ut ub ud = v) (h : ¬ (c = true ∧ v = true ∧ uk = 2)) : ACalls Try.prog 24 [.agg #[.int .i64 s.ver, .string s.id, .bool s.kn, .int .i64 s.mv, .int .i64 s.ms, .int .i64 s.mg, .int .i64 s.mq, .slice (some ⟨0, 0, none⟩) n n, .string s.data, .int .u64 s.bits, .slice (some ⟨1, 0, none⟩) p p], .agg #[.int .i64 uk, .int .i64 uv, .string ui, .int .i64 up, .int .i64 ut, .int .u64 ub, .string ud]] [some ⟨List.map Value.string s.L, false, 1⟩, some ⟨List.map Value.string s.P, false, 1⟩] (.tuple #[.slice none 0 0, .int .i64 1]) [none, none] := by
  have H0 := ac_check s n p hn hp hb hbits (by omega) c hc
  have H1 := ac_valid uk uv ui up ut ub ud v hu
  clear hc hu hbits
  obtain ⟨ver, id, kn, mv, ms, mg, mq, L, data, bits, P⟩ := s
  dsimp only at *
  cases c
  · clear h
    refine acalls_law Try.func24 rfl rfl rfl ?_
    repeat' first | intro h1 | refine st (h := ok_not_dec2 rfl) ?_ | refine sd (h := ok_not_dec2 rfl) ?_ | refine st ?_ | refine stRW [0, 1] H0 ?_ | refine sdRW [0, 1] H0 ?_ | refine st_call (H1) ?_ | refine sd_call (H1) ?_ | refine Kc ?_ | refine Ka ?_ | refine Kb ?_ ?_ | refine Jx (id := 17) [0,0,2,0,0,16,0,0,240,510,1022,2047,4095] 11 ?_ | fail
    all_goals first
      | rfl
      | (exfalso; omega)
      | (simp [retOf]; done)
      | (exfalso; simp_all; done)
  · cases v
    · clear h
      refine acalls_law Try.func24 rfl rfl rfl ?_
      repeat' first | intro h1 | refine st (h := ok_not_dec2 rfl) ?_ | refine sd (h := ok_not_dec2 rfl) ?_ | refine st ?_ | refine stRW [0, 1] H0 ?_ | refine sdRW [0, 1] H0 ?_ | refine st_call (H1) ?_ | refine sd_call (H1) ?_ | refine Kc ?_ | refine Ka ?_ | refine Kb ?_ ?_ | refine Jx (id := 17) [0,0,2,0,0,16,0,0,240,510,1022,2047,4095] 11 ?_ | fail
      all_goals first
        | rfl
        | (exfalso; omega)
        | (simp [retOf]; done)
        | (exfalso; simp_all; done)
    · have hk : uk ≠ 2 := fun e => h ⟨rfl, rfl, e⟩
      clear h
      refine acalls_law Try.func24 rfl rfl rfl ?_
      repeat' first | intro h1 | refine st (h := ok_not_dec2 rfl) ?_ | refine sd (h := ok_not_dec2 rfl) ?_ | refine st ?_ | refine stRW [0, 1] H0 ?_ | refine sdRW [0, 1] H0 ?_ | refine st_call (H1) ?_ | refine sd_call (H1) ?_ | refine Kc ?_ | refine Ka ?_ | refine Kb ?_ ?_ | refine Jx (id := 17) [0,0,2,0,0,16,0,0,240,510,1022,2047,4095] 11 ?_ | fail
      all_goals first
        | rfl
        | (exfalso; omega)
        | (simp [retOf]; done)
        | (exfalso; simp_all; done)
set_option maxHeartbeats 8000000 in
/-- Serve, of another version, or without a manifest. -/
theorem ac_ServeN (s : Sto) (n p : Nat) (hn : s.L.length = n) (hp : s.P.length = p) (hb : n ≤ 1000000 ∧ p ≤ 1000000) (hbits : s.bits < 18446744073709551616) (hd : s.data.size ≤ 100000) (uv : Int) (ui : ByteArray) (up : Int) (ub : Nat) (hc : chS s = true) (hu : valU 2 uv ui up 0 ub ⟨#[]⟩ = true) (h : ¬ (s.kn = true ∧ uv = s.ver ∧ ui = s.id)) : ACalls Try.prog 24 [.agg #[.int .i64 s.ver, .string s.id, .bool s.kn, .int .i64 s.mv, .int .i64 s.ms, .int .i64 s.mg, .int .i64 s.mq, .slice (some ⟨0, 0, none⟩) n n, .string s.data, .int .u64 s.bits, .slice (some ⟨1, 0, none⟩) p p], .agg #[.int .i64 2, .int .i64 uv, .string ui, .int .i64 up, .int .i64 0, .int .u64 ub, .string ⟨#[]⟩]] [some ⟨List.map Value.string s.L, false, 1⟩, some ⟨List.map Value.string s.P, false, 1⟩] (.tuple #[.slice none 0 0, .int .i64 0]) [none, none] := by
  have H0 := ac_check s n p hn hp hb hbits (by omega) true hc
  have H1 := ac_valid 2 uv ui up 0 ub ⟨#[]⟩ true hu
  clear hc hu hbits
  obtain ⟨ver, id, kn, mv, ms, mg, mq, L, data, bits, P⟩ := s
  dsimp only at *
  cases kn
  · clear h
    refine acalls_law Try.func24 rfl rfl rfl ?_
    repeat' first | intro h1 | refine st (h := ok_not_dec2 rfl) ?_ | refine sd (h := ok_not_dec2 rfl) ?_ | refine st ?_ | refine stRW [0, 1] H0 ?_ | refine sdRW [0, 1] H0 ?_ | refine st_call (H1) ?_ | refine sd_call (H1) ?_ | refine Kc ?_ | refine Ka ?_ | refine Kb ?_ ?_ | refine Jx (id := 17) [0,0,2,0,0,16,0,0,240,510,1022,2047,4095] 11 ?_ | fail
    all_goals first
      | rfl
      | (exfalso; omega)
      | (simp [retOf]; done)
      | (exfalso; simp_all; done)
  · by_cases hv : uv = ver
    · have hi : ui ≠ id := fun e => h ⟨rfl, hv, e⟩
      have hw : decide (ui = id) = false := decide_eq_false hi
      clear h hi
      refine acalls_law Try.func24 rfl rfl rfl ?_
      repeat' first | intro h1 | refine st (h := ok_not_dec2 rfl) ?_ | refine sd (h := ok_not_dec2 rfl) ?_ | refine st (h := ok_str_eqlD rfl rfl hw) ?_ | refine st (h := ok_str_neqD rfl rfl hw) ?_ | refine sd (h := ok_str_eqlD rfl rfl hw) ?_ | refine sd (h := ok_str_neqD rfl rfl hw) ?_ | refine st ?_ | refine stRW [0, 1] H0 ?_ | refine sdRW [0, 1] H0 ?_ | refine st_call (H1) ?_ | refine sd_call (H1) ?_ | refine Kc ?_ | refine Ka ?_ | refine Kb ?_ ?_ | refine Jx (id := 17) [0,0,2,0,0,16,0,0,240,510,1022,2047,4095] 11 ?_ | fail
      all_goals first
        | rfl
        | (exfalso; omega)
        | (simp [retOf]; done)
        | (exfalso; simp_all; done)
    · clear h
      refine acalls_law Try.func24 rfl rfl rfl ?_
      repeat' first | intro h1 | refine st (h := ok_not_dec2 rfl) ?_ | refine sd (h := ok_not_dec2 rfl) ?_ | refine st ?_ | refine stRW [0, 1] H0 ?_ | refine sdRW [0, 1] H0 ?_ | refine st_call (H1) ?_ | refine sd_call (H1) ?_ | refine Kc ?_ | refine Ka ?_ | refine Kb ?_ ?_ | refine Jx (id := 17) [0,0,2,0,0,16,0,0,240,510,1022,2047,4095] 11 ?_ | fail
      all_goals first
        | rfl
        | (exfalso; omega)
        | (simp [retOf]; done)
        | (exfalso; simp_all; done)
set_option maxHeartbeats 8000000 in
/-- Serve, of a page that is not there. -/
theorem ac_ServeE (s : Sto) (n p : Nat) (hn : s.L.length = n) (hp : s.P.length = p) (hb : n ≤ 1000000 ∧ p ≤ 1000000) (hbits : s.bits < 18446744073709551616) (hd : s.data.size ≤ 100000) (hc : chS s = true) (hkn : s.kn = true) (uv : Int) (ui : ByteArray) (up : Int) (ub : Nat) (hu : valU 2 uv ui up 0 ub ⟨#[]⟩ = true) (hv : uv = s.ver) (hi : ui = s.id) (h0 : 0 ≤ up) (k : Nat) (hk : dnN s.ms s.mg n s.data.size = k) (hik : (k : Int) ≤ up) : ACalls Try.prog 24 [.agg #[.int .i64 s.ver, .string s.id, .bool s.kn, .int .i64 s.mv, .int .i64 s.ms, .int .i64 s.mg, .int .i64 s.mq, .slice (some ⟨0, 0, none⟩) n n, .string s.data, .int .u64 s.bits, .slice (some ⟨1, 0, none⟩) p p], .agg #[.int .i64 2, .int .i64 uv, .string ui, .int .i64 up, .int .i64 0, .int .u64 ub, .string ⟨#[]⟩]] [some ⟨List.map Value.string s.L, false, 1⟩, some ⟨List.map Value.string s.P, false, 1⟩] (.tuple #[.slice (some ⟨2, 0, none⟩) 0 0, .int .i64 0]) [none, none, some ⟨[], true, 7⟩] := by
  have H0 := ac_check s n p hn hp hb hbits (by omega) _ hc
  have H1 := ac_valid 2 uv ui up 0 ub ⟨#[]⟩ _ hu
  have hkb : knB s = true := by
    rcases chS_spec hc with h | ⟨_, _, h, _⟩
    · exact absurd (of_decide_eq_true h).2.2.1 (by rw [hkn]; decide)
    · exact h hkn
  obtain ⟨r1, r2, r3, r4, k', r5, r6, r7, r8, r9, r10, r11, r12, r13⟩ := knB_spec hn hp hkb
  obtain rfl : k = k' := by omega
  have HD := ac_done s n p hn hp hb (.inr r11) (by omega) k hk true r4
  have H3 := ac_answers s n p hn hp hb [] 0 rfl (by omega)
  clear hc hu hkb r1 r2 r3 r4 r5 r7 r8 r9 hbits
  obtain ⟨ver, id, kn, mv, ms, mg, mq, L, data, bits, P⟩ := s
  dsimp only at *
  subst hv hi hkn
  refine acalls_of_aw Try.func24 rfl rfl ?_
  refine aw_ghost 7 rfl ?_
  repeat' first | intro h1 | refine st (h := ok_not_dec2 rfl) ?_ | refine sd (h := ok_not_dec2 rfl) ?_ | refine st (h := ok_str_eqlT rfl rfl) ?_ | refine st (h := ok_str_neqF rfl rfl) ?_ | refine sd (h := ok_str_eqlT rfl rfl) ?_ | refine sd (h := ok_str_neqF rfl rfl) ?_ | refine st ?_ | refine stRW [0, 1] H0 ?_ | refine stRW [0, 1] HD ?_ | refine sdRW [0, 1] H0 ?_ | refine sdRW [0, 1] HD ?_ | refine st_call (H1) ?_ | refine sd_call (H1) ?_ | refine stMW [0, 1, 2] H3 ?_ | refine Kc ?_ | refine Ka ?_ | refine Kb ?_ ?_ | refine Jx (id := 17) [0,0,2,0,0,16,0,0,240,510,1022,2047,4095] 11 ?_ | fail
  all_goals first | (exfalso; omega) | exact pm_ret _ (renumD [0, 1, 2]) rfl | exact pm_ret _ (renumD [0, 1, 5]) rfl
theorem ok_agg_neqG {P : Program} {ρ : Operand → Option Value} {m : Mem} {d : Option Tmp} {t : TypeId} {pp : String} {af : Array Edge} {g : Option (Nat × Bool)} {xt yt : TypeId} {x y : Operand} {xs ys : Array Value} {fs : List (TypeId × Nat)} (p : Prop) [Decidable p] {c : Bool} [hE : TyE P xt] [hF : TyF P xt fs] (hx : ρ x = some (.agg xs)) (hy : ρ y = some (.agg ys)) (h : EqFs P (EqL P 3) xs.toList ys.toList fs p) (hc : decide p = c) :
    OpOK P ⟨d, .binOp .neq xt x y yt, t, pp, af, g⟩ ρ m (.bool (!c)) m := by
  have := ok_agg_neq (m := m) (d := d) (t := t) (pp := pp) (af := af) (g := g) (xt := xt) (yt := yt) hx hy h
  have e : ∀ i : Decidable (¬ p), @decide (¬ p) i = !c := fun i => by
    rw [← hc]
    by_cases h : p <;> simp [h]
  rwa [e] at this
set_option maxHeartbeats 4000000 in
theorem ac_equalU (U : List Upd) (m : Nat) (hm : U.length = m) (hmb : m ≤ 1000000) : ACalls Try.prog 30 [.slice (some ⟨0, 0, none⟩) m m, .slice (some ⟨1, 0, none⟩) m m] [some ⟨U.flatMap updC, false, 7⟩, some ⟨U.flatMap updC, false, 7⟩] (.bool true) [none, none] := by
  refine acalls_law Try.func30 rfl rfl rfl ?_
  repeat' first | intro h1 | refine st ?_ | refine Kc ?_ | refine Ka ?_ | refine Kb ?_ ?_ | refine Jx (id := 6) [0,0,3,7,0,0,48,112,255] 9 ?_ | fail
  all_goals try (exfalso; omega)
  refine aw_loopg
    (S := fun y : Wi => [(0, .slice (some ⟨0, 0, none⟩) m m), (1, .slice (some ⟨1, 0, none⟩) m m), (12, .int .i64 m), (13, .int .i64 y.i)])
    (B := fun _ : Wi => [some ⟨U.flatMap updC, false, 7⟩, some ⟨U.flatMap updC, false, 7⟩])
    (R := fun y : Wi => y.i ≤ m)
    (μ := fun y : Wi => m - y.i) ⟨0⟩ (fitsD [0, 1]) (Nat.zero_le _) ?_
  rintro ⟨i⟩ g1
  dsimp only at *
  by_cases hi : i < m
  · obtain ⟨⟨uk, uv, ui, up, ut, ub, ud⟩, hq⟩ : ∃ q, U[i]? = some q := ⟨_, List.getElem?_eq_getElem (by omega)⟩
    repeat' first | intro h1 | refine st (h := ok_load_rowsE (f := updC) (cs := [.int .i64 uk, .int .i64 uv, .string ui, .int .i64 up, .int .i64 ut, .int .u64 ub, .string ud]) i (fun _ => rfl) hq rfl rfl rfl rfl (by omega)) ?_ | refine sd (h := ok_load_rowsE (f := updC) (cs := [.int .i64 uk, .int .i64 uv, .string ui, .int .i64 up, .int .i64 ut, .int .u64 ub, .string ud]) i (fun _ => rfl) hq rfl rfl rfl rfl (by omega)) ?_ | refine sdl (h := ok_load_rowsE (f := updC) (cs := [.int .i64 uk, .int .i64 uv, .string ui, .int .i64 up, .int .i64 ut, .int .u64 ub, .string ud]) i (fun _ => rfl) hq rfl rfl rfl rfl (by omega)) ?_ | refine stm (h := ok_load_rowsE (f := updC) (cs := [.int .i64 uk, .int .i64 uv, .string ui, .int .i64 up, .int .i64 ut, .int .u64 ub, .string ud]) i (fun _ => rfl) hq rfl rfl rfl rfl (by omega)) ?_ | refine st (h := ok_agg_neqG (uk = uk ∧ uv = uv ∧ ui = ui ∧ up = up ∧ ut = ut ∧ (ub : Int) = ub ∧ ud = ud ∧ True) rfl rfl (by ((repeat constructor); first | done | fail)) (decide_eq_true ⟨rfl, rfl, rfl, rfl, rfl, rfl, rfl, trivial⟩)) ?_ | refine sd (h := ok_agg_neqG (uk = uk ∧ uv = uv ∧ ui = ui ∧ up = up ∧ ut = ut ∧ (ub : Int) = ub ∧ ud = ud ∧ True) rfl rfl (by ((repeat constructor); first | done | fail)) (decide_eq_true ⟨rfl, rfl, rfl, rfl, rfl, rfl, rfl, trivial⟩)) ?_ | refine sdl (h := ok_agg_neqG (uk = uk ∧ uv = uv ∧ ui = ui ∧ up = up ∧ ut = ut ∧ (ub : Int) = ub ∧ ud = ud ∧ True) rfl rfl (by ((repeat constructor); first | done | fail)) (decide_eq_true ⟨rfl, rfl, rfl, rfl, rfl, rfl, rfl, trivial⟩)) ?_ | refine st ?_ | refine Kc ?_ | refine Ka ?_ | refine Kb ?_ ?_ | refine Jx (id := 6) [0,0,3,7,0,0,48,112,255] 9 ?_ | fail
    all_goals first | exact Exists.intro ⟨i + 1⟩ ⟨fitsD [0, 1], hi, by dsimp only; omega⟩ | (exfalso; omega)
  · obtain rfl : i = m := by omega
    repeat' first | intro h1 | refine st ?_ | refine Kc ?_ | refine Ka ?_ | refine Kb ?_ ?_ | refine Jx (id := 6) [0,0,3,7,0,0,48,112,255] 9 ?_ | fail
    all_goals first
      | rfl
      | (exfalso; omega)
      | (refine congrArg Value.bool ?_; first | exact decide_eq_true (by omega) | exact decide_eq_false (by omega) | exact (decide_eq_true (by omega)).symm | exact (decide_eq_false (by omega)).symm)
      | (show Value.bool _ = Value.bool _; congr 1; first | exact decide_eq_true (by omega) | exact decide_eq_false (by omega) | exact (decide_eq_true (by omega)).symm | exact (decide_eq_false (by omega)).symm)
      | (simp [retOf]; done)
end Go.Proofs.Ytekkdoaakilafaa
