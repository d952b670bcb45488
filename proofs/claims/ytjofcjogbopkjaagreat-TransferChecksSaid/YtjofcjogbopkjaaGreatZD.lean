/- TransferChecks: the law. -/
import Derived.Test.YtjofcjogbopkjaaGreatVL
import Derived.Test.YtjofcjogbopkjaaGreatZ2
import Derived.Test.YtjofcjogbopkjaaGreatR5
import Derived.Test.YtjofcjogbopkjaaGreatW4
import Derived.Test.YtjofcjogbopkjaaGreatY1
set_option linter.unusedVariables false
set_option linter.unusedSimpArgs false
namespace Go.Proofs.YtjofcjogbopkjaaGreat
open Go Av
set_option maxRecDepth 20000
theorem ok_int_eqT {P : Program} {ρ : Operand → Option Value} {m : Mem} {d : Option Tmp} {t : TypeId} {pp : String} {af : Array Edge} {g : Option (Nat × Bool)} {xt yt : TypeId} {x y : Operand} {k : IntKind} {a : Int} (hx : ρ x = some (.int k a)) (hy : ρ y = some (.int k a)) : OpOK P ⟨d, .binOp .eql xt x y yt, t, pp, af, g⟩ ρ m (.bool true) m := by
  have := ok_eql (P := P) (m := m) (d := d) (t := t) (pp := pp) (af := af) (g := g) (xt := xt) (yt := yt) hx hy
  rwa [decide_eq_true rfl] at this
theorem ok_bool_eqlD {P : Program} {ρ : Operand → Option Value} {m : Mem} {d : Option Tmp} {t : TypeId} {pp : String} {af : Array Edge} {g : Option (Nat × Bool)} {xt yt : TypeId} {x y : Operand} {a b c : Bool} [Ty P xt .bool] (hx : ρ x = some (.bool a)) (hy : ρ y = some (.bool b)) (h : decide (a = b) = c) : OpOK P ⟨d, .binOp .eql xt x y yt, t, pp, af, g⟩ ρ m (.bool c) m := by
  subst h
  exact ok_bool_eql hx hy
set_option maxHeartbeats 16000000 in
theorem law_checks (s : Sto) (hbits : s.bits < 18446744073709551616) (uk uv : Int) (ui : ByteArray) (up ut : Int) (ub : Nat) (ud : ByteArray) (hub : ub < 18446744073709551616) : ACalls Tryz.prog 4 [.agg #[.int .i64 s.ver, .string s.id, .bool s.kn, .int .i64 s.mv, .int .i64 s.ms, .int .i64 s.mg, .int .i64 s.mq, .slice (some ⟨0, 0, none⟩) s.L.length s.L.length, .string s.data, .int .u64 s.bits, .slice (some ⟨1, 0, none⟩) s.P.length s.P.length], .agg #[.int .i64 uk, .int .i64 uv, .string ui, .int .i64 up, .int .i64 ut, .int .u64 ub, .string ud]] [some ⟨List.map Value.string s.L, false, 1⟩, some ⟨List.map Value.string s.P, false, 1⟩] (.bool true) [none, none] := by
  obtain ⟨w, hw⟩ : ∃ w, fewS s = w := ⟨_, rfl⟩
  have HF := ac_FewS s s.L.length s.P.length rfl rfl w hw
  obtain ⟨w2, hw2⟩ : ∃ w, shB [⟨uk, uv, ui, up, ut, ub, ud⟩] 1 = w := ⟨_, rfl⟩
  have HS := ac_Short [⟨uk, uv, ui, up, ut, ub, ud⟩] 1 rfl 1 (by decide) w2 hw2
  cases w
  · clear hw hw2
    obtain ⟨ver, id, kn, mv, ms, mg, mq, L, data, bits, P⟩ := s
    dsimp only at *
    refine acalls_law Tryz.func4 rfl rfl rfl ?_
    repeat' first | refine st_call (ac_awake) ?_ | refine st ?_ | refine stRW [0, 1] HF ?_ | refine stm ?_ | refine Ja ?_ | refine Jb ?_ | refine run_nil ?_ | refine Jz ?_ | refine Jw ?_ | refine Jq ?_ | refine aw_ret ?_ | refine pp_ret ?_
    all_goals first
      | rfl
      | (exfalso; omega)
      | (simp [retOf]; done)
      | (exfalso; simp_all; done)
  have hfew := fewS_spec hw
  clear hw
  cases w2
  · clear hw2
    obtain ⟨ver, id, kn, mv, ms, mg, mq, L, data, bits, P⟩ := s
    dsimp only at *
    refine acalls_law Tryz.func4 rfl rfl rfl ?_
    repeat' first | refine st_call (ac_awake) ?_ | refine st ?_ | refine stRW [0, 1] HF ?_ | refine stRW [4] HS ?_ | refine stm ?_ | refine Ja ?_ | refine run_nil ?_ | refine Jz ?_ | refine Jw ?_ | refine Jq ?_ | refine aw_ret ?_ | refine pp_ret ?_
    all_goals first
      | rfl
      | (exfalso; omega)
      | (simp [retOf]; done)
      | (exfalso; simp_all; done)
  clear hw2
  have hb : s.L.length ≤ 1000000 ∧ s.P.length ≤ 1000000 := by omega
  have hd : s.data.size ≤ 1000000 := by omega
  clear hfew
  have HP := ac_cp s s.L.length s.P.length rfl rfl hb
  obtain ⟨⟨ak, av, ai, ap, at', ab, ad⟩, hA⟩ : ∃ A, anX s = A := ⟨_, rfl⟩
  obtain ⟨E, hE⟩ : ∃ E, anE s = E := ⟨_, rfl⟩
  have H1 := ac_AnnX s s.L.length s.P.length rfl rfl hb hbits hd _ hA E hE
  have H2 := ac_rAnnX s s.L.length s.P.length rfl rfl hb hbits hd _ hA E hE
  obtain ⟨⟨dk, dv, di, dp, dt, db, dd⟩, hD⟩ : ∃ A, asX s = A := ⟨_, rfl⟩
  obtain ⟨E2, hE2⟩ : ∃ E, asE s = E := ⟨_, rfl⟩
  have H3 := ac_AskX s s.L.length s.P.length rfl rfl hb hbits hd _ hD E2 hE2
  have H4 := ac_rAskX s s.L.length s.P.length rfl rfl hb hbits hd _ hD E2 hE2
  obtain ⟨v, hv⟩ : ∃ v, valU uk uv ui up ut ub ud = v := ⟨_, rfl⟩
  have H5 := ac_Valid uk uv ui up ut ub ud v hv
  have H6 := ac_rValid uk uv ui up ut ub ud v hv
  obtain ⟨x, hx⟩ : ∃ x, chS s = x := ⟨_, rfl⟩
  obtain ⟨y, hy⟩ : ∃ y, cpB s = y := ⟨_, rfl⟩
  have H7 := ac_Check s s.L.length s.P.length rfl rfl hb hbits hd x hx
  have H8 := ac_rCheck s s.L.length s.P.length rfl rfl hb hbits hd x hx
  have H9 := ac_Complete s s.L.length s.P.length rfl rfl hb hbits hd x y hx hy
  have HX := ac_rComplete s s.L.length s.P.length rfl rfl hb hbits hd x y hx hy
  clear hA hE hD hE2 hv hx hy
  dsimp only at H1 H2 H3 H4
  generalize (if v = true then (0 : Int) else 1) = ev at H5 H6
  generalize (if x = true then (0 : Int) else 1) = ex at H7 H8
  generalize (x && y) = xy at H9 HX
  obtain ⟨ver, id, kn, mv, ms, mg, mq, L, data, bits, P⟩ := s
  dsimp only at *
  refine acalls_law Tryz.func4 rfl rfl rfl ?_
  repeat' first | refine st_call (ac_awake) ?_ | refine sd (h := ok_int_eqT rfl rfl) ?_ | refine sd (h := ok_bool_eqlD rfl rfl (decide_eq_true rfl)) ?_ | refine sd (h := ok_agg_eqlD (ak = ak ∧ av = av ∧ ai = ai ∧ ap = ap ∧ at' = at' ∧ (ab : Int) = ab ∧ ad = ad ∧ True) rfl rfl (by ((repeat constructor); first | done | fail)) (decide_eq_true ⟨rfl, rfl, rfl, rfl, rfl, rfl, rfl, trivial⟩)) ?_ | refine sd (h := ok_agg_eqlD (dk = dk ∧ dv = dv ∧ di = di ∧ dp = dp ∧ dt = dt ∧ (db : Int) = db ∧ dd = dd ∧ True) rfl rfl (by ((repeat constructor); first | done | fail)) (decide_eq_true ⟨rfl, rfl, rfl, rfl, rfl, rfl, rfl, trivial⟩)) ?_ | refine st ?_ | refine stRW [0, 1] HF ?_ | refine stRW [4] HS ?_ | refine stMW [0, 1] HP ?_ | refine stRW [5, 6] H1 ?_ | refine stRW [9, 10] H3 ?_ | refine stRW [0, 1] H2 ?_ | refine stRW [0, 1] H4 ?_ | refine sdRW [0, 1] H8 ?_ | refine sdRW [0, 1] HX ?_ | refine sd_call (H5) ?_ | refine sd_call (H6) ?_ | refine sdNR (r' := .agg #[.int .i64 ver, .string id, .bool kn, .int .i64 mv, .int .i64 ms, .int .i64 mg, .int .i64 mq, .slice (some ⟨13, 0, none⟩) L.length L.length, .string data, .int .u64 bits, .slice (some ⟨14, 0, none⟩) P.length P.length]) (N := [some ⟨List.map Value.string L, true, 1⟩, some ⟨List.map Value.string P, true, 1⟩]) [0, 1] 2 HP ?_ | refine sdRW [13, 14] H7 ?_ | refine sdNR (r' := .agg #[.int .i64 ver, .string id, .bool kn, .int .i64 mv, .int .i64 ms, .int .i64 mg, .int .i64 mq, .slice (some ⟨15, 0, none⟩) L.length L.length, .string data, .int .u64 bits, .slice (some ⟨16, 0, none⟩) P.length P.length]) (N := [some ⟨List.map Value.string L, true, 1⟩, some ⟨List.map Value.string P, true, 1⟩]) [0, 1] 2 HP ?_ | refine sdRW [15, 16] H9 ?_ | refine stm ?_ | refine Ja ?_ | refine run_nil ?_ | refine sd ?_ | refine sdl ?_ | refine Jk ?_ | refine rund_nil ?_ | refine Jz ?_ | refine Jw ?_ | refine Jx (id := 7) [0,1,0,7,15,31,63,127,255,63,1023,2047,4095,8191,16383,32767,65535,16383,262143,524287,1048575,2097151,4194303,4194303,16777215,33554431,67108863,134217727,134217727,536870911,1073741823,2147483647,4294967295,4294967295,17179869183,34359738367,68719476735,137438953471,137438953471,549755813887,1099511627775,2199023255551] 42 ?_ | refine Jr ?_ | refine Jy ?_ | refine aw_ret ?_ | refine pp_ret ?_
  all_goals first
    | rfl
    | (exfalso; omega)
    | (refine congrArg Value.bool ?_; first | exact decide_eq_true (by omega) | exact decide_eq_false (by omega) | exact (decide_eq_true (by omega)).symm | exact (decide_eq_false (by omega)).symm)
    | (show Value.bool _ = Value.bool _; congr 1; first | exact decide_eq_true (by omega) | exact decide_eq_false (by omega) | exact (decide_eq_true (by omega)).symm | exact (decide_eq_false (by omega)).symm)
    | (simp [retOf]; done)
end Go.Proofs.YtjofcjogbopkjaaGreat
