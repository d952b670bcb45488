/- TransferHears: rounds that keep the pages. TransferHears: rounds with another store. TransferHears: the law. -/
import Derived.Test.YtjofcjogbopkjaaGreatVL
import Derived.Test.YtjofcjogbopkjaaGreatZ9
import Derived.Test.YtjofcjogbopkjaaGreatY1
import Derived.Test.YtjofcjogbopkjaaGreatY4
import Derived.Test.YtjofcjogbopkjaaGreatZB1
import Derived.Test.YtjofcjogbopkjaaGreatW4
import Derived.Test.YtjofcjogbopkjaaGreatVP
set_option linter.unusedVariables false
set_option linter.unusedSimpArgs false
namespace Go.Proofs.YtjofcjogbopkjaaGreat
open Go Av
set_option maxRecDepth 20000
set_option maxHeartbeats 16000000 in
theorem hr_p {Q : Exit → Slots → Mem → Prop} (U : List Upd) (m i : Nat) (hm : U.length = m) (hm12 : m ≤ 12) (hi : i < m) (s : Sto) (l q : Bool) (b1 : s.L.length ≤ 1000) (b2 : s.P.length ≤ 1000) (b3 : s.data.size ≤ 100000) (b4 : s.bits < 18446744073709551616) (uk uv : Int) (ui : ByteArray) (up ut : Int) (ub : Nat) (ud : ByteArray) (hq : U[i]? = some ⟨uk, uv, ui, up, ut, ub, ud⟩) (hc : chS s = true) (hu : valU uk uv ui up ut ub ud = true) (s' : Sto) (hs' : heS s ⟨uk, uv, ui, up, ut, ub, ud⟩ = s') (e : Bool) (he : heE s ⟨uk, uv, ui, up, ut, ub, ud⟩ = e) (hL : s'.L = s.L) (HR : ACalls Tryz.prog 10 [.agg #[.int .i64 s.ver, .string s.id, .bool s.kn, .int .i64 s.mv, .int .i64 s.ms, .int .i64 s.mg, .int .i64 s.mq, .slice (some ⟨0, 0, none⟩) s.L.length s.L.length, .string s.data, .int .u64 s.bits, .slice (some ⟨1, 0, none⟩) s.P.length s.P.length], .agg #[.int .i64 uk, .int .i64 uv, .string ui, .int .i64 up, .int .i64 ut, .int .u64 ub, .string ud]] [some ⟨List.map Value.string s.L, false, 1⟩, some ⟨List.map Value.string s.P, false, 1⟩] (.tuple #[.agg #[.int .i64 s'.ver, .string s'.id, .bool s'.kn, .int .i64 s'.mv, .int .i64 s'.ms, .int .i64 s'.mg, .int .i64 s'.mq, .slice (some ⟨0, 0, none⟩) s.L.length s.L.length, .string s'.data, .int .u64 s'.bits, .slice (some ⟨2, 0, none⟩) s'.P.length s'.P.length], .bool e, .int .i64 0]) [none, none, some ⟨List.map Value.string s'.P, true, 1⟩]) : AW Tryz.prog Tryz.f3.ntmps 3 (loopAt Tryz.f3 0) (ThenA (fun σ1 m1 => ∃ y : Gh, Fits 3 ([(5, .pointer (some ⟨3, 0, none⟩)), (6, .pointer (some ⟨4, 0, none⟩)), (31, .slice (some ⟨2, 0, none⟩) m m), (32, .int .i64 m), (33, .int .i64 y.i)]) ([none, none, some ⟨U.flatMap updC, false, 7⟩, some ⟨[.int .i64 y.s.ver, .string y.s.id, .bool y.s.kn, .int .i64 y.s.mv, .int .i64 y.s.ms, .int .i64 y.s.mg, .int .i64 y.s.mq, .slice (some ⟨5, 0, none⟩) y.s.L.length y.s.L.length, .string y.s.data, .int .u64 y.s.bits, .slice (some ⟨6, 0, none⟩) y.s.P.length y.s.P.length], true, 1⟩, some ⟨[.int .i64 y.s.ver, .string y.s.id, .bool y.s.kn, .int .i64 y.s.mv, .int .i64 y.s.ms, .int .i64 y.s.mg, .int .i64 y.s.mq, .slice (some ⟨7, 0, none⟩) y.s.L.length y.s.L.length, .string y.s.data, .int .u64 y.s.bits, .slice (some ⟨8, 0, none⟩) y.s.P.length y.s.P.length], true, 1⟩, some ⟨List.map Value.string y.s.L, true, 1⟩, some ⟨List.map Value.string y.s.P, true, 1⟩, some ⟨List.map Value.string y.s.L, y.l, 1⟩, some ⟨List.map Value.string y.s.P, y.q, 1⟩]) σ1 m1 ∧ (y.i ≤ m ∧ y.s.L.length ≤ 1000 ∧ y.s.P.length ≤ 1000 ∧ y.s.data.size ≤ 100000 ∧ y.s.bits < 18446744073709551616) ∧ m - y.i < m - i) Q) ([(5, .pointer (some ⟨3, 0, none⟩)), (6, .pointer (some ⟨4, 0, none⟩)), (31, .slice (some ⟨2, 0, none⟩) m m), (32, .int .i64 m), (33, .int .i64 i)]) ([none, none, some ⟨U.flatMap updC, false, 7⟩, some ⟨[.int .i64 s.ver, .string s.id, .bool s.kn, .int .i64 s.mv, .int .i64 s.ms, .int .i64 s.mg, .int .i64 s.mq, .slice (some ⟨5, 0, none⟩) s.L.length s.L.length, .string s.data, .int .u64 s.bits, .slice (some ⟨6, 0, none⟩) s.P.length s.P.length], true, 1⟩, some ⟨[.int .i64 s.ver, .string s.id, .bool s.kn, .int .i64 s.mv, .int .i64 s.ms, .int .i64 s.mg, .int .i64 s.mq, .slice (some ⟨7, 0, none⟩) s.L.length s.L.length, .string s.data, .int .u64 s.bits, .slice (some ⟨8, 0, none⟩) s.P.length s.P.length], true, 1⟩, some ⟨List.map Value.string s.L, true, 1⟩, some ⟨List.map Value.string s.P, true, 1⟩, some ⟨List.map Value.string s.L, l, 1⟩, some ⟨List.map Value.string s.P, q, 1⟩]) := by
  have HP := ac_cp s s.L.length s.P.length rfl rfl ⟨by omega, by omega⟩
  have HE := ac_Hear s s.L.length s.P.length rfl rfl ⟨by omega, by omega⟩ b4 (by omega) hc uk uv ui up ut ub ud hu s' hs' e he s'.L.length s'.P.length rfl rfl
  have hc' : chS s' = true := by rw [← hs']; exact ch_hear hc hu
  obtain ⟨d1, d2, d3, d4⟩ := chS_bd hc'
  have H3 := ac_sameS s' s'.L.length s'.P.length rfl rfl ⟨by omega, by omega⟩
  have hb : (i + 1 ≤ m ∧ s'.L.length ≤ 1000 ∧ s'.P.length ≤ 1000 ∧ s'.data.size ≤ 100000 ∧ s'.bits < 18446744073709551616) := ⟨hi, by omega, by omega, by omega, d4⟩
  clear hc hu hs' he hc'
  obtain ⟨ver, id, kn, mv, ms, mg, mq, L, data, bits, P⟩ := s
  obtain ⟨ver', id', kn', mv', ms', mg', mq', L', data', bits', P'⟩ := s'
  dsimp only at hL
  obtain rfl : L = L' := hL.symm
  dsimp only at *
  repeat' first | intro h1 | refine st (h := ok_load_rowsE (f := updC) (cs := [.int .i64 uk, .int .i64 uv, .string ui, .int .i64 up, .int .i64 ut, .int .u64 ub, .string ud]) i (fun _ => rfl) hq rfl rfl rfl rfl (by omega)) ?_ | refine st ?_ | refine sdNR (r' := .agg #[.int .i64 ver, .string id, .bool kn, .int .i64 mv, .int .i64 ms, .int .i64 mg, .int .i64 mq, .slice (some ⟨10, 0, none⟩) L.length L.length, .string data, .int .u64 bits, .slice (some ⟨11, 0, none⟩) P.length P.length]) (N := [some ⟨List.map Value.string L, true, 1⟩, some ⟨List.map Value.string P, true, 1⟩]) [5, 6] 2 HP ?_ | refine sdNR (r' := .tuple #[.agg #[.int .i64 ver', .string id', .bool kn', .int .i64 mv', .int .i64 ms', .int .i64 mg', .int .i64 mq', .slice (some ⟨12, 0, none⟩) L.length L.length, .string data', .int .u64 bits', .slice (some ⟨13, 0, none⟩) P'.length P'.length], .bool e, .int .i64 0]) (N := [some ⟨List.map Value.string L, true, 1⟩, some ⟨List.map Value.string P', true, 1⟩]) [10, 11] 2 HE ?_ | refine stMW (r' := .tuple #[.agg #[.int .i64 ver', .string id', .bool kn', .int .i64 mv', .int .i64 ms', .int .i64 mg', .int .i64 mq', .slice (some ⟨7, 0, none⟩) L.length L.length, .string data', .int .u64 bits', .slice (some ⟨15, 0, none⟩) P'.length P'.length], .bool e, .int .i64 0]) [7, 8] HR ?_ | refine stRW [12, 13, 7, 15] H3 ?_ | refine stm ?_ | refine Ja ?_ | refine Jb ?_ | refine Ji ?_ ?_ | refine run_nil ?_ | refine Own.sol ?_ | refine Own.sow ?_ | refine Own.sob ?_ | refine Own.runo_nil ?_ | refine sd ?_ | refine sdl ?_ | refine sdm (n := 1) ?_ | refine sdb ?_ | refine rund_nil ?_ | refine Jz ?_ | refine Jw ?_ | refine Jx (id := 7) [0,1,0,7,15,31,31,31,0,319,895,2047] 9 ?_ | refine aw_region_oC (id := 12) [0, 0, 1, 7] 3 [[], [], [3], []] (by (repeat constructor)) (by kernel_rfl) (by kernel_rfl) (by kernel_rfl) (by rfl) (by rfl) ?_ | refine aw_block ?_ | refine Jq ?_ | refine Jr ?_ | refine Js ?_ | refine Jy ?_ | refine aw_ret ?_
  all_goals first | exact Exists.intro ⟨i + 1, ⟨ver', id', kn', mv', ms', mg', mq', L, data', bits', P'⟩, l, true⟩ ⟨fitsD [0, 1, 2, 3, 4, 12, 13, 7, 15], hb, by dsimp only; omega⟩ | exact absurd rfl h1
end Go.Proofs.YtjofcjogbopkjaaGreat
namespace Go.Proofs.YtjofcjogbopkjaaGreat
open Go Av
set_option maxRecDepth 20000
set_option maxHeartbeats 16000000 in
theorem hr_m {Q : Exit → Slots → Mem → Prop} (U : List Upd) (m i : Nat) (hm : U.length = m) (hm12 : m ≤ 12) (hi : i < m) (s : Sto) (l q : Bool) (b1 : s.L.length ≤ 1000) (b2 : s.P.length ≤ 1000) (b3 : s.data.size ≤ 100000) (b4 : s.bits < 18446744073709551616) (uk uv : Int) (ui : ByteArray) (up ut : Int) (ub : Nat) (ud : ByteArray) (hq : U[i]? = some ⟨uk, uv, ui, up, ut, ub, ud⟩) (hc : chS s = true) (hu : valU uk uv ui up ut ub ud = true) (s' : Sto) (hs' : heS s ⟨uk, uv, ui, up, ut, ub, ud⟩ = s') (e : Bool) (he : heE s ⟨uk, uv, ui, up, ut, ub, ud⟩ = e) (HR : ACalls Tryz.prog 10 [.agg #[.int .i64 s.ver, .string s.id, .bool s.kn, .int .i64 s.mv, .int .i64 s.ms, .int .i64 s.mg, .int .i64 s.mq, .slice (some ⟨0, 0, none⟩) s.L.length s.L.length, .string s.data, .int .u64 s.bits, .slice (some ⟨1, 0, none⟩) s.P.length s.P.length], .agg #[.int .i64 uk, .int .i64 uv, .string ui, .int .i64 up, .int .i64 ut, .int .u64 ub, .string ud]] [some ⟨List.map Value.string s.L, false, 1⟩, some ⟨List.map Value.string s.P, false, 1⟩] (.tuple #[.agg #[.int .i64 s'.ver, .string s'.id, .bool s'.kn, .int .i64 s'.mv, .int .i64 s'.ms, .int .i64 s'.mg, .int .i64 s'.mq, .slice (some ⟨2, 0, none⟩) s'.L.length s'.L.length, .string s'.data, .int .u64 s'.bits, .slice (some ⟨3, 0, none⟩) s'.P.length s'.P.length], .bool e, .int .i64 0]) [none, none, some ⟨List.map Value.string s'.L, true, 1⟩, some ⟨List.map Value.string s'.P, true, 1⟩]) : AW Tryz.prog Tryz.f3.ntmps 3 (loopAt Tryz.f3 0) (ThenA (fun σ1 m1 => ∃ y : Gh, Fits 3 ([(5, .pointer (some ⟨3, 0, none⟩)), (6, .pointer (some ⟨4, 0, none⟩)), (31, .slice (some ⟨2, 0, none⟩) m m), (32, .int .i64 m), (33, .int .i64 y.i)]) ([none, none, some ⟨U.flatMap updC, false, 7⟩, some ⟨[.int .i64 y.s.ver, .string y.s.id, .bool y.s.kn, .int .i64 y.s.mv, .int .i64 y.s.ms, .int .i64 y.s.mg, .int .i64 y.s.mq, .slice (some ⟨5, 0, none⟩) y.s.L.length y.s.L.length, .string y.s.data, .int .u64 y.s.bits, .slice (some ⟨6, 0, none⟩) y.s.P.length y.s.P.length], true, 1⟩, some ⟨[.int .i64 y.s.ver, .string y.s.id, .bool y.s.kn, .int .i64 y.s.mv, .int .i64 y.s.ms, .int .i64 y.s.mg, .int .i64 y.s.mq, .slice (some ⟨7, 0, none⟩) y.s.L.length y.s.L.length, .string y.s.data, .int .u64 y.s.bits, .slice (some ⟨8, 0, none⟩) y.s.P.length y.s.P.length], true, 1⟩, some ⟨List.map Value.string y.s.L, true, 1⟩, some ⟨List.map Value.string y.s.P, true, 1⟩, some ⟨List.map Value.string y.s.L, y.l, 1⟩, some ⟨List.map Value.string y.s.P, y.q, 1⟩]) σ1 m1 ∧ (y.i ≤ m ∧ y.s.L.length ≤ 1000 ∧ y.s.P.length ≤ 1000 ∧ y.s.data.size ≤ 100000 ∧ y.s.bits < 18446744073709551616) ∧ m - y.i < m - i) Q) ([(5, .pointer (some ⟨3, 0, none⟩)), (6, .pointer (some ⟨4, 0, none⟩)), (31, .slice (some ⟨2, 0, none⟩) m m), (32, .int .i64 m), (33, .int .i64 i)]) ([none, none, some ⟨U.flatMap updC, false, 7⟩, some ⟨[.int .i64 s.ver, .string s.id, .bool s.kn, .int .i64 s.mv, .int .i64 s.ms, .int .i64 s.mg, .int .i64 s.mq, .slice (some ⟨5, 0, none⟩) s.L.length s.L.length, .string s.data, .int .u64 s.bits, .slice (some ⟨6, 0, none⟩) s.P.length s.P.length], true, 1⟩, some ⟨[.int .i64 s.ver, .string s.id, .bool s.kn, .int .i64 s.mv, .int .i64 s.ms, .int .i64 s.mg, .int .i64 s.mq, .slice (some ⟨7, 0, none⟩) s.L.length s.L.length, .string s.data, .int .u64 s.bits, .slice (some ⟨8, 0, none⟩) s.P.length s.P.length], true, 1⟩, some ⟨List.map Value.string s.L, true, 1⟩, some ⟨List.map Value.string s.P, true, 1⟩, some ⟨List.map Value.string s.L, l, 1⟩, some ⟨List.map Value.string s.P, q, 1⟩]) := by
  have HP := ac_cp s s.L.length s.P.length rfl rfl ⟨by omega, by omega⟩
  have HE := ac_Hear s s.L.length s.P.length rfl rfl ⟨by omega, by omega⟩ b4 (by omega) hc uk uv ui up ut ub ud hu s' hs' e he s'.L.length s'.P.length rfl rfl
  have hc' : chS s' = true := by rw [← hs']; exact ch_hear hc hu
  obtain ⟨d1, d2, d3, d4⟩ := chS_bd hc'
  have H3 := ac_sameS s' s'.L.length s'.P.length rfl rfl ⟨by omega, by omega⟩
  have hb : (i + 1 ≤ m ∧ s'.L.length ≤ 1000 ∧ s'.P.length ≤ 1000 ∧ s'.data.size ≤ 100000 ∧ s'.bits < 18446744073709551616) := ⟨hi, by omega, by omega, by omega, d4⟩
  clear hc hu hs' he hc'
  obtain ⟨ver, id, kn, mv, ms, mg, mq, L, data, bits, P⟩ := s
  obtain ⟨ver', id', kn', mv', ms', mg', mq', L', data', bits', P'⟩ := s'
  dsimp only at *
  repeat' first | intro h1 | refine st (h := ok_load_rowsE (f := updC) (cs := [.int .i64 uk, .int .i64 uv, .string ui, .int .i64 up, .int .i64 ut, .int .u64 ub, .string ud]) i (fun _ => rfl) hq rfl rfl rfl rfl (by omega)) ?_ | refine st ?_ | refine sdNR (r' := .agg #[.int .i64 ver, .string id, .bool kn, .int .i64 mv, .int .i64 ms, .int .i64 mg, .int .i64 mq, .slice (some ⟨10, 0, none⟩) L.length L.length, .string data, .int .u64 bits, .slice (some ⟨11, 0, none⟩) P.length P.length]) (N := [some ⟨List.map Value.string L, true, 1⟩, some ⟨List.map Value.string P, true, 1⟩]) [5, 6] 2 HP ?_ | refine sdNR (r' := .tuple #[.agg #[.int .i64 ver', .string id', .bool kn', .int .i64 mv', .int .i64 ms', .int .i64 mg', .int .i64 mq', .slice (some ⟨12, 0, none⟩) L'.length L'.length, .string data', .int .u64 bits', .slice (some ⟨13, 0, none⟩) P'.length P'.length], .bool e, .int .i64 0]) (N := [some ⟨List.map Value.string L', true, 1⟩, some ⟨List.map Value.string P', true, 1⟩]) [10, 11] 2 HE ?_ | refine stMW (r' := .tuple #[.agg #[.int .i64 ver', .string id', .bool kn', .int .i64 mv', .int .i64 ms', .int .i64 mg', .int .i64 mq', .slice (some ⟨15, 0, none⟩) L'.length L'.length, .string data', .int .u64 bits', .slice (some ⟨16, 0, none⟩) P'.length P'.length], .bool e, .int .i64 0]) [7, 8] HR ?_ | refine stRW [12, 13, 15, 16] H3 ?_ | refine stm ?_ | refine Ja ?_ | refine Jb ?_ | refine Ji ?_ ?_ | refine run_nil ?_ | refine Own.sol ?_ | refine Own.sow ?_ | refine Own.sob ?_ | refine Own.runo_nil ?_ | refine sd ?_ | refine sdl ?_ | refine sdm (n := 1) ?_ | refine sdb ?_ | refine rund_nil ?_ | refine Jz ?_ | refine Jw ?_ | refine Jx (id := 7) [0,1,0,7,15,31,31,31,0,319,895,2047] 9 ?_ | refine aw_region_oC (id := 12) [0, 0, 1, 7] 3 [[], [], [3], []] (by (repeat constructor)) (by kernel_rfl) (by kernel_rfl) (by kernel_rfl) (by rfl) (by rfl) ?_ | refine aw_block ?_ | refine Jq ?_ | refine Jr ?_ | refine Js ?_ | refine Jy ?_ | refine aw_ret ?_
  all_goals first | exact Exists.intro ⟨i + 1, ⟨ver', id', kn', mv', ms', mg', mq', L', data', bits', P'⟩, true, true⟩ ⟨fitsD [0, 1, 2, 3, 4, 12, 13, 15, 16], hb, by dsimp only; omega⟩ | exact absurd rfl h1
end Go.Proofs.YtjofcjogbopkjaaGreat
namespace Go.Proofs.YtjofcjogbopkjaaGreat
open Go Av
set_option maxRecDepth 20000
set_option maxHeartbeats 16000000 in
theorem law_hears (s : Sto) (hbits : s.bits < 18446744073709551616) (U : List Upd) : ACalls Tryz.prog 3 [.agg #[.int .i64 s.ver, .string s.id, .bool s.kn, .int .i64 s.mv, .int .i64 s.ms, .int .i64 s.mg, .int .i64 s.mq, .slice (some ⟨0, 0, none⟩) s.L.length s.L.length, .string s.data, .int .u64 s.bits, .slice (some ⟨1, 0, none⟩) s.P.length s.P.length], .slice (some ⟨2, 0, none⟩) U.length U.length] [some ⟨List.map Value.string s.L, false, 1⟩, some ⟨List.map Value.string s.P, false, 1⟩, some ⟨U.flatMap updC, false, 7⟩] (.bool true) [none, none, none] := by
  obtain ⟨w, hw⟩ : ∃ w, fewS s = w := ⟨_, rfl⟩
  have HF := ac_FewS s s.L.length s.P.length rfl rfl w hw
  obtain ⟨m, hm⟩ : ∃ m, U.length = m := ⟨_, rfl⟩
  rw [hm]
  obtain ⟨w2, hw2⟩ : ∃ w, shB U 12 = w := ⟨_, rfl⟩
  have HS := ac_Short U m hm 12 (by decide) w2 hw2
  cases w
  · clear hw hw2
    obtain ⟨ver, id, kn, mv, ms, mg, mq, L, data, bits, P⟩ := s
    dsimp only at *
    refine acalls_law Tryz.func3 rfl rfl rfl ?_
    repeat' first | refine st_call (ac_awake) ?_ | refine st ?_ | refine stRW [0, 1] HF ?_ | refine stm ?_ | refine Ja ?_ | refine Jb ?_ | refine run_nil ?_ | refine Jz ?_ | refine Jw ?_ | refine Jq ?_ | refine aw_ret ?_ | refine pp_ret ?_
    all_goals first
      | rfl
      | (exfalso; omega)
      | (simp [retOf]; done)
      | (exfalso; simp_all; done)
  have hfew := fewS_spec hw
  clear hw
  cases w2
  · clear hw2
    obtain ⟨ver, id, kn, mv, ms, mg, mq, L, data, bits, P⟩ := s
    dsimp only at *
    refine acalls_law Tryz.func3 rfl rfl rfl ?_
    repeat' first | refine st_call (ac_awake) ?_ | refine st ?_ | refine stRW [0, 1] HF ?_ | refine stRW [2] HS ?_ | refine stm ?_ | refine Ja ?_ | refine run_nil ?_ | refine Jz ?_ | refine Jw ?_ | refine Jq ?_ | refine aw_ret ?_ | refine pp_ret ?_
    all_goals first
      | rfl
      | (exfalso; omega)
      | (simp [retOf]; done)
      | (exfalso; simp_all; done)
  obtain ⟨hsh1, hsh2⟩ := shB_spec hw2
  rw [hm] at hsh1
  clear hw2 hsh2
  have HP := ac_cp s s.L.length s.P.length rfl rfl ⟨by omega, by omega⟩
  have hb : s.L.length ≤ 1000 ∧ s.P.length ≤ 1000 ∧ s.data.size ≤ 100000 := by omega
  clear hfew
  obtain ⟨ver, id, kn, mv, ms, mg, mq, L, data, bits, P⟩ := s
  dsimp only at HF HP hbits hb ⊢
  refine acalls_law Tryz.func3 rfl rfl rfl ?_
  repeat' first | refine Lat.aw_region_lC (id := 3) [0, 1, 0, 0, 0, 27, 63] 5 [2] 3 (by (repeat constructor)) (by kernel_rfl) (by kernel_rfl) (by kernel_rfl) (by rfl) (by rfl) (by rfl) ?_ | refine st_call (ac_awake) ?_ | refine st ?_ | refine stRW [0, 1] HF ?_ | refine stRW [2] HS ?_ | refine Lat.sdNR (r' := .agg #[.int .i64 ver, .string id, .bool kn, .int .i64 mv, .int .i64 ms, .int .i64 mg, .int .i64 mq, .slice (some ⟨4, 0, none⟩) L.length L.length, .string data, .int .u64 bits, .slice (some ⟨5, 0, none⟩) P.length P.length]) (N := [some ⟨List.map Value.string L, true, 1⟩, some ⟨List.map Value.string P, true, 1⟩]) [0, 1] 2 HP ?_ | refine Lat.late ?_ | refine Lat.sdl ?_ | refine Lat.sdm (n := 1) ?_ | refine Lat.sdb ?_ | refine Lat.nil ?_ | refine stm ?_ | refine Ja ?_ | refine run_nil ?_ | refine Jz ?_ | refine Jw ?_ | refine aw_block ?_ | refine Jr ?_ | refine Jy ?_
  all_goals try (exfalso; omega)
  refine aw_loopg
    (S := fun y : Gh => [(5, .pointer (some ⟨3, 0, none⟩)), (6, .pointer (some ⟨4, 0, none⟩)), (31, .slice (some ⟨2, 0, none⟩) m m), (32, .int .i64 m), (33, .int .i64 y.i)])
    (B := fun y : Gh => [none, none, some ⟨U.flatMap updC, false, 7⟩, some ⟨[.int .i64 y.s.ver, .string y.s.id, .bool y.s.kn, .int .i64 y.s.mv, .int .i64 y.s.ms, .int .i64 y.s.mg, .int .i64 y.s.mq, .slice (some ⟨5, 0, none⟩) y.s.L.length y.s.L.length, .string y.s.data, .int .u64 y.s.bits, .slice (some ⟨6, 0, none⟩) y.s.P.length y.s.P.length], true, 1⟩, some ⟨[.int .i64 y.s.ver, .string y.s.id, .bool y.s.kn, .int .i64 y.s.mv, .int .i64 y.s.ms, .int .i64 y.s.mg, .int .i64 y.s.mq, .slice (some ⟨7, 0, none⟩) y.s.L.length y.s.L.length, .string y.s.data, .int .u64 y.s.bits, .slice (some ⟨8, 0, none⟩) y.s.P.length y.s.P.length], true, 1⟩, some ⟨List.map Value.string y.s.L, true, 1⟩, some ⟨List.map Value.string y.s.P, true, 1⟩, some ⟨List.map Value.string y.s.L, y.l, 1⟩, some ⟨List.map Value.string y.s.P, y.q, 1⟩])
    (R := fun y : Gh => y.i ≤ m ∧ y.s.L.length ≤ 1000 ∧ y.s.P.length ≤ 1000 ∧ y.s.data.size ≤ 100000 ∧ y.s.bits < 18446744073709551616)
    (μ := fun y : Gh => m - y.i) ⟨0, ⟨ver, id, kn, mv, ms, mg, mq, L, data, bits, P⟩, false, false⟩ (fitsD [0, 1, 2, 6, 7, 4, 5, 0, 1]) ⟨Nat.zero_le _, hb.1, hb.2.1, hb.2.2, hbits⟩ ?_
  clear HF HS HP hb hbits
  rintro ⟨i, s, l, q⟩ ⟨g1, b1, b2, b3, b4⟩
  dsimp only at g1 b1 b2 b3 b4 ⊢
  by_cases hi : i < m
  · obtain ⟨⟨uk, uv, ui, up, ut, ub, ud⟩, hq⟩ : ∃ q, U[i]? = some q := ⟨_, List.getElem?_eq_getElem (by omega)⟩
    by_cases h : chS s = true ∧ valU uk uv ui up ut ub ud = true
    · have HR := ac_rHear s s.L.length s.P.length rfl rfl ⟨by omega, by omega⟩ b4 (by omega) h.1 uk uv ui up ut ub ud h.2 _ rfl _ rfl _ _ rfl rfl
      rcases HR with HR | ⟨hL, HR⟩ | HR
      · exact hr_k U m i hm (by omega) hi s l q b1 b2 b3 b4 uk uv ui up ut ub ud hq h.1 h.2 _ rfl _ rfl HR
      · exact hr_p U m i hm (by omega) hi s l q b1 b2 b3 b4 uk uv ui up ut ub ud hq h.1 h.2 _ rfl _ rfl hL HR
      · exact hr_m U m i hm (by omega) hi s l q b1 b2 b3 b4 uk uv ui up ut ub ud hq h.1 h.2 _ rfl _ rfl HR
    · exact hr_x U m i hm (by omega) hi s l q b1 b2 b3 b4 uk uv ui up ut ub ud hq _ _ rfl rfl h
  · obtain rfl : i = m := by omega
    repeat' first | refine st ?_ | refine run_nil ?_ | refine Jz ?_ | refine Jw ?_ | refine Jt ?_ | refine aw_exit ?_ | refine aw_ret ?_ | refine pp_ret ?_
    all_goals first
      | rfl
      | (exfalso; omega)
      | (simp [retOf]; done)
      | (exfalso; simp_all; done)
end Go.Proofs.YtjofcjogbopkjaaGreat
