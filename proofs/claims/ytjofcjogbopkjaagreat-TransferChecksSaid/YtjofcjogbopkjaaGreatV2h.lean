/- Transfer: Hear of what changes nothing. Transfer: Hear of what changes nothing (packets). -/
import Derived.Test.YtjofcjogbopkjaaGreatVL
import Derived.Test.YtjofcjogbopkjaaGreatU9
import Derived.Test.YtjofcjogbopkjaaGreatU5
import Derived.Test.YtjofcjogbopkjaaGreatUA
set_option linter.unusedVariables false
set_option linter.unusedSimpArgs false
namespace Go.Proofs.YtjofcjogbopkjaaGreat
open Go Av
set_option maxRecDepth 20000
theorem ok_agg_eqlD {P : Program} {ρ : Operand → Option Value} {m : Mem} {d : Option Tmp} {t : TypeId} {pp : String} {af : Array Edge} {g : Option (Nat × Bool)} {xt yt : TypeId} {x y : Operand} {xs ys : Array Value} {fs : List (TypeId × Nat)} (p : Prop) [Decidable p] {c : Bool} [hE : TyE P xt] [hF : TyF P xt fs] (hx : ρ x = some (.agg xs)) (hy : ρ y = some (.agg ys)) (h : EqFs P (EqL P 3) xs.toList ys.toList fs p) (hc : decide p = c) :
    OpOK P ⟨d, .binOp .eql xt x y yt, t, pp, af, g⟩ ρ m (.bool c) m := by
  have := ok_agg_eql (m := m) (d := d) (t := t) (pp := pp) (af := af) (g := g) (xt := xt) (yt := yt) hx hy h
  have e : @decide p (Classical.propDecidable p) = c := by rw [← hc]; by_cases h : p <;> simp [h]
  rw [← e]
  exact this
set_option maxHeartbeats 16000000 in
theorem ac_HearK2 (s : Sto) (n p : Nat) (hn : s.L.length = n) (hp : s.P.length = p) (hb : n ≤ 1000000 ∧ p ≤ 1000000) (hbits : s.bits < 18446744073709551616) (hd : s.data.size ≤ 100000) (hc : chS s = true) (uk uv : Int) (ui : ByteArray) (up ut : Int) (ub : Nat) (ud : ByteArray) (hu : valU uk uv ui up ut ub ud = true) (e : Bool) (he : e = false) (hk : uk = 2) : ACalls Tryz.prog 9 [.agg #[.int .i64 s.ver, .string s.id, .bool s.kn, .int .i64 s.mv, .int .i64 s.ms, .int .i64 s.mg, .int .i64 s.mq, .slice (some ⟨0, 0, none⟩) n n, .string s.data, .int .u64 s.bits, .slice (some ⟨1, 0, none⟩) p p], .agg #[.int .i64 uk, .int .i64 uv, .string ui, .int .i64 up, .int .i64 ut, .int .u64 ub, .string ud]] [some ⟨List.map Value.string s.L, false, 1⟩, some ⟨List.map Value.string s.P, false, 1⟩] (.tuple #[.agg #[.int .i64 s.ver, .string s.id, .bool s.kn, .int .i64 s.mv, .int .i64 s.ms, .int .i64 s.mg, .int .i64 s.mq, .slice (some ⟨2, 0, none⟩) n n, .string s.data, .int .u64 s.bits, .slice (some ⟨3, 0, none⟩) p p], .bool e, .int .i64 0]) [none, none, some ⟨List.map Value.string s.L, true, 1⟩, some ⟨List.map Value.string s.P, true, 1⟩] := by
  have H0 := ac_check s n p hn hp hb hbits (by omega) _ hc
  have H1 := ac_valid uk uv ui up ut ub ud _ hu
  have H4 := ac_own s.mv s.ms s.mg s.mq s.L n hn hb.1
  have H5 := ac_cloneS s.P p hp hb.2
  obtain ⟨cp, hcp⟩ : ∃ cp, cpB s = cp := ⟨_, rfl⟩
  have H6 := ac_complete s n p hn hp hb cp hcp
  clear hc hu
  skip
  obtain ⟨ver, id, kn, mv, ms, mg, mq, L, data, bits, P⟩ := s
  dsimp only at *
  subst he
  obtain ⟨w, hw⟩ : ∃ w, decide (ui = id) = w := ⟨_, rfl⟩
  subst hk
  clear hcp hbits
  refine acalls_of_aw Tryz.func9 rfl rfl ?_
  repeat' first | intro h1 | refine st (h := ok_str_eqlD rfl rfl hw) ?_ | refine st ?_ | refine stRW [0, 1] H0 ?_ | refine st_call (H1) ?_ | refine sdNR (r' := .agg #[.int .i64 mv, .int .i64 ms, .int .i64 mg, .int .i64 mq, .slice (some ⟨5, 0, none⟩) n n]) (N := [some ⟨List.map Value.string L, true, 1⟩]) [0] 1 H4 ?_ | refine sdNR (r' := .slice (some ⟨6, 0, none⟩) p p) (N := [some ⟨List.map Value.string P, true, 1⟩]) [1] 1 H5 ?_ | refine stm ?_ | refine Ja ?_ | refine Jb ?_ | refine Jh ?_ ?_ | refine run_nil ?_ | refine sd ?_ | refine sdl ?_ | refine sdb ?_ | refine Jl ?_ | refine rund_nil ?_ | refine Jz ?_ | refine Jw ?_ | refine Jx (id := 3) [0,1,3,7,15,31,63,127,255,511,511,1535,4095,8191,16383] 15 ?_ | refine Jx (id := 4) [0,1,3,0,8,31,63,127,255,511] 7 ?_ | refine aw_block ?_ | refine Jr ?_ | refine Jy ?_ | refine aw_ret ?_
  all_goals first | exact pm_ret _ (renumD [0, 1, 5, 6]) rfl
set_option maxHeartbeats 16000000 in
theorem ac_HearK3v (s : Sto) (n p : Nat) (hn : s.L.length = n) (hp : s.P.length = p) (hb : n ≤ 1000000 ∧ p ≤ 1000000) (hbits : s.bits < 18446744073709551616) (hd : s.data.size ≤ 100000) (hc : chS s = true) (uk uv : Int) (ui : ByteArray) (up ut : Int) (ub : Nat) (ud : ByteArray) (hu : valU uk uv ui up ut ub ud = true) (e : Bool) (he : e = false) (hk : uk = 3) (hv : uv ≠ s.ver) : ACalls Tryz.prog 9 [.agg #[.int .i64 s.ver, .string s.id, .bool s.kn, .int .i64 s.mv, .int .i64 s.ms, .int .i64 s.mg, .int .i64 s.mq, .slice (some ⟨0, 0, none⟩) n n, .string s.data, .int .u64 s.bits, .slice (some ⟨1, 0, none⟩) p p], .agg #[.int .i64 uk, .int .i64 uv, .string ui, .int .i64 up, .int .i64 ut, .int .u64 ub, .string ud]] [some ⟨List.map Value.string s.L, false, 1⟩, some ⟨List.map Value.string s.P, false, 1⟩] (.tuple #[.agg #[.int .i64 s.ver, .string s.id, .bool s.kn, .int .i64 s.mv, .int .i64 s.ms, .int .i64 s.mg, .int .i64 s.mq, .slice (some ⟨2, 0, none⟩) n n, .string s.data, .int .u64 s.bits, .slice (some ⟨3, 0, none⟩) p p], .bool e, .int .i64 0]) [none, none, some ⟨List.map Value.string s.L, true, 1⟩, some ⟨List.map Value.string s.P, true, 1⟩] := by
  have H0 := ac_check s n p hn hp hb hbits (by omega) _ hc
  have H1 := ac_valid uk uv ui up ut ub ud _ hu
  have H4 := ac_own s.mv s.ms s.mg s.mq s.L n hn hb.1
  have H5 := ac_cloneS s.P p hp hb.2
  obtain ⟨cp, hcp⟩ : ∃ cp, cpB s = cp := ⟨_, rfl⟩
  have H6 := ac_complete s n p hn hp hb cp hcp
  clear hc hu
  skip
  obtain ⟨ver, id, kn, mv, ms, mg, mq, L, data, bits, P⟩ := s
  dsimp only at *
  subst he
  subst hk
  clear hcp hbits
  refine acalls_of_aw Tryz.func9 rfl rfl ?_
  repeat' first | refine st ?_ | refine stRW [0, 1] H0 ?_ | refine st_call (H1) ?_ | refine sdNR (r' := .agg #[.int .i64 mv, .int .i64 ms, .int .i64 mg, .int .i64 mq, .slice (some ⟨5, 0, none⟩) n n]) (N := [some ⟨List.map Value.string L, true, 1⟩]) [0] 1 H4 ?_ | refine sdNR (r' := .slice (some ⟨6, 0, none⟩) p p) (N := [some ⟨List.map Value.string P, true, 1⟩]) [1] 1 H5 ?_ | refine stm ?_ | refine Ja ?_ | refine Jb ?_ | refine Je ?_ | refine run_nil ?_ | refine sd ?_ | refine sdl ?_ | refine sdb ?_ | refine Jl ?_ | refine rund_nil ?_ | refine Jz ?_ | refine Jw ?_ | refine Jx (id := 3) [0,1,3,7,15,31,63,127,255,511,511,1535,4095,8191,16383] 15 ?_ | refine Jx (id := 4) [0,1,3,0,8,31,63,127,255,511] 7 ?_ | refine aw_block ?_ | refine Jr ?_ | refine Jy ?_ | refine aw_ret ?_
  all_goals first | exact pm_ret _ (renumD [0, 1, 5, 6]) rfl
set_option maxHeartbeats 16000000 in
theorem ac_HearK3i (s : Sto) (n p : Nat) (hn : s.L.length = n) (hp : s.P.length = p) (hb : n ≤ 1000000 ∧ p ≤ 1000000) (hbits : s.bits < 18446744073709551616) (hd : s.data.size ≤ 100000) (hc : chS s = true) (uk uv : Int) (ui : ByteArray) (up ut : Int) (ub : Nat) (ud : ByteArray) (hu : valU uk uv ui up ut ub ud = true) (e : Bool) (he : e = false) (hk : uk = 3) (hv : uv = s.ver) (hi : ui ≠ s.id) : ACalls Tryz.prog 9 [.agg #[.int .i64 s.ver, .string s.id, .bool s.kn, .int .i64 s.mv, .int .i64 s.ms, .int .i64 s.mg, .int .i64 s.mq, .slice (some ⟨0, 0, none⟩) n n, .string s.data, .int .u64 s.bits, .slice (some ⟨1, 0, none⟩) p p], .agg #[.int .i64 uk, .int .i64 uv, .string ui, .int .i64 up, .int .i64 ut, .int .u64 ub, .string ud]] [some ⟨List.map Value.string s.L, false, 1⟩, some ⟨List.map Value.string s.P, false, 1⟩] (.tuple #[.agg #[.int .i64 s.ver, .string s.id, .bool s.kn, .int .i64 s.mv, .int .i64 s.ms, .int .i64 s.mg, .int .i64 s.mq, .slice (some ⟨2, 0, none⟩) n n, .string s.data, .int .u64 s.bits, .slice (some ⟨3, 0, none⟩) p p], .bool e, .int .i64 0]) [none, none, some ⟨List.map Value.string s.L, true, 1⟩, some ⟨List.map Value.string s.P, true, 1⟩] := by
  have H0 := ac_check s n p hn hp hb hbits (by omega) _ hc
  have H1 := ac_valid uk uv ui up ut ub ud _ hu
  have H4 := ac_own s.mv s.ms s.mg s.mq s.L n hn hb.1
  have H5 := ac_cloneS s.P p hp hb.2
  obtain ⟨cp, hcp⟩ : ∃ cp, cpB s = cp := ⟨_, rfl⟩
  have H6 := ac_complete s n p hn hp hb cp hcp
  clear hc hu
  skip
  obtain ⟨ver, id, kn, mv, ms, mg, mq, L, data, bits, P⟩ := s
  dsimp only at *
  subst he
  have hw : decide (ui = id) = false := decide_eq_false hi
  subst hk hv
  clear hcp hbits
  refine acalls_of_aw Tryz.func9 rfl rfl ?_
  repeat' first | refine st (h := ok_str_eqlD rfl rfl hw) ?_ | refine st ?_ | refine stRW [0, 1] H0 ?_ | refine st_call (H1) ?_ | refine sdNR (r' := .agg #[.int .i64 mv, .int .i64 ms, .int .i64 mg, .int .i64 mq, .slice (some ⟨5, 0, none⟩) n n]) (N := [some ⟨List.map Value.string L, true, 1⟩]) [0] 1 H4 ?_ | refine sdNR (r' := .slice (some ⟨6, 0, none⟩) p p) (N := [some ⟨List.map Value.string P, true, 1⟩]) [1] 1 H5 ?_ | refine stm ?_ | refine Ja ?_ | refine Jb ?_ | refine Jd ?_ | refine run_nil ?_ | refine sd ?_ | refine sdl ?_ | refine sdb ?_ | refine Jl ?_ | refine rund_nil ?_ | refine Jz ?_ | refine Jw ?_ | refine Jx (id := 3) [0,1,3,7,15,31,63,127,255,511,511,1535,4095,8191,16383] 15 ?_ | refine Jx (id := 4) [0,1,3,0,8,31,63,127,255,511] 7 ?_ | refine aw_block ?_ | refine Jr ?_ | refine Jy ?_ | refine aw_ret ?_
  all_goals first | exact pm_ret _ (renumD [0, 1, 5, 6]) rfl
set_option maxHeartbeats 16000000 in
theorem ac_HearK3k (s : Sto) (n p : Nat) (hn : s.L.length = n) (hp : s.P.length = p) (hb : n ≤ 1000000 ∧ p ≤ 1000000) (hbits : s.bits < 18446744073709551616) (hd : s.data.size ≤ 100000) (hc : chS s = true) (uk uv : Int) (ui : ByteArray) (up ut : Int) (ub : Nat) (ud : ByteArray) (hu : valU uk uv ui up ut ub ud = true) (e : Bool) (he : e = false) (hk : uk = 3) (hv : uv = s.ver) (hi : ui = s.id) (hkn : s.kn = true) : ACalls Tryz.prog 9 [.agg #[.int .i64 s.ver, .string s.id, .bool s.kn, .int .i64 s.mv, .int .i64 s.ms, .int .i64 s.mg, .int .i64 s.mq, .slice (some ⟨0, 0, none⟩) n n, .string s.data, .int .u64 s.bits, .slice (some ⟨1, 0, none⟩) p p], .agg #[.int .i64 uk, .int .i64 uv, .string ui, .int .i64 up, .int .i64 ut, .int .u64 ub, .string ud]] [some ⟨List.map Value.string s.L, false, 1⟩, some ⟨List.map Value.string s.P, false, 1⟩] (.tuple #[.agg #[.int .i64 s.ver, .string s.id, .bool s.kn, .int .i64 s.mv, .int .i64 s.ms, .int .i64 s.mg, .int .i64 s.mq, .slice (some ⟨2, 0, none⟩) n n, .string s.data, .int .u64 s.bits, .slice (some ⟨3, 0, none⟩) p p], .bool e, .int .i64 0]) [none, none, some ⟨List.map Value.string s.L, true, 1⟩, some ⟨List.map Value.string s.P, true, 1⟩] := by
  have H0 := ac_check s n p hn hp hb hbits (by omega) _ hc
  have H1 := ac_valid uk uv ui up ut ub ud _ hu
  have H4 := ac_own s.mv s.ms s.mg s.mq s.L n hn hb.1
  have H5 := ac_cloneS s.P p hp hb.2
  obtain ⟨cp, hcp⟩ : ∃ cp, cpB s = cp := ⟨_, rfl⟩
  have H6 := ac_complete s n p hn hp hb cp hcp
  clear hc hu
  skip
  obtain ⟨ver, id, kn, mv, ms, mg, mq, L, data, bits, P⟩ := s
  dsimp only at *
  subst he
  subst hk hv hi hkn
  clear hcp hbits
  refine acalls_of_aw Tryz.func9 rfl rfl ?_
  repeat' first | refine st (h := ok_str_eqlT rfl rfl) ?_ | refine st ?_ | refine stRW [0, 1] H0 ?_ | refine st_call (H1) ?_ | refine sdNR (r' := .agg #[.int .i64 mv, .int .i64 ms, .int .i64 mg, .int .i64 mq, .slice (some ⟨5, 0, none⟩) n n]) (N := [some ⟨List.map Value.string L, true, 1⟩]) [0] 1 H4 ?_ | refine sdNR (r' := .slice (some ⟨6, 0, none⟩) p p) (N := [some ⟨List.map Value.string P, true, 1⟩]) [1] 1 H5 ?_ | refine stm ?_ | refine Ja ?_ | refine Jb ?_ | refine Jd ?_ | refine run_nil ?_ | refine sd ?_ | refine sdl ?_ | refine sdb ?_ | refine Jl ?_ | refine rund_nil ?_ | refine Jz ?_ | refine Jw ?_ | refine Jx (id := 3) [0,1,3,7,15,31,63,127,255,511,511,1535,4095,8191,16383] 15 ?_ | refine Jx (id := 4) [0,1,3,0,8,31,63,127,255,511] 7 ?_ | refine aw_block ?_ | refine Jr ?_ | refine Jy ?_ | refine aw_ret ?_
  all_goals first | exact pm_ret _ (renumD [0, 1, 5, 6]) rfl
end Go.Proofs.YtjofcjogbopkjaaGreat
namespace Go.Proofs.YtjofcjogbopkjaaGreat
open Go Av
set_option maxRecDepth 20000
set_option maxHeartbeats 16000000 in
theorem ac_HearK4v (s : Sto) (n p : Nat) (hn : s.L.length = n) (hp : s.P.length = p) (hb : n ≤ 1000000 ∧ p ≤ 1000000) (hbits : s.bits < 18446744073709551616) (hd : s.data.size ≤ 100000) (hc : chS s = true) (uk uv : Int) (ui : ByteArray) (up ut : Int) (ub : Nat) (ud : ByteArray) (hu : valU uk uv ui up ut ub ud = true) (e : Bool) (he : e = false) (hk : uk = 4) (hv : uv ≠ s.ver) : ACalls Tryz.prog 9 [.agg #[.int .i64 s.ver, .string s.id, .bool s.kn, .int .i64 s.mv, .int .i64 s.ms, .int .i64 s.mg, .int .i64 s.mq, .slice (some ⟨0, 0, none⟩) n n, .string s.data, .int .u64 s.bits, .slice (some ⟨1, 0, none⟩) p p], .agg #[.int .i64 uk, .int .i64 uv, .string ui, .int .i64 up, .int .i64 ut, .int .u64 ub, .string ud]] [some ⟨List.map Value.string s.L, false, 1⟩, some ⟨List.map Value.string s.P, false, 1⟩] (.tuple #[.agg #[.int .i64 s.ver, .string s.id, .bool s.kn, .int .i64 s.mv, .int .i64 s.ms, .int .i64 s.mg, .int .i64 s.mq, .slice (some ⟨2, 0, none⟩) n n, .string s.data, .int .u64 s.bits, .slice (some ⟨3, 0, none⟩) p p], .bool e, .int .i64 0]) [none, none, some ⟨List.map Value.string s.L, true, 1⟩, some ⟨List.map Value.string s.P, true, 1⟩] := by
  have H0 := ac_check s n p hn hp hb hbits (by omega) _ hc
  have H1 := ac_valid uk uv ui up ut ub ud _ hu
  have H4 := ac_own s.mv s.ms s.mg s.mq s.L n hn hb.1
  have H5 := ac_cloneS s.P p hp hb.2
  obtain ⟨cp, hcp⟩ : ∃ cp, cpB s = cp := ⟨_, rfl⟩
  have H6 := ac_complete s n p hn hp hb cp hcp
  clear hc hu
  skip
  obtain ⟨ver, id, kn, mv, ms, mg, mq, L, data, bits, P⟩ := s
  dsimp only at *
  subst he
  subst hk
  clear hcp hbits
  refine acalls_of_aw Tryz.func9 rfl rfl ?_
  repeat' first | refine st ?_ | refine stRW [0, 1] H0 ?_ | refine st_call (H1) ?_ | refine sdNR (r' := .agg #[.int .i64 mv, .int .i64 ms, .int .i64 mg, .int .i64 mq, .slice (some ⟨5, 0, none⟩) n n]) (N := [some ⟨List.map Value.string L, true, 1⟩]) [0] 1 H4 ?_ | refine sdNR (r' := .slice (some ⟨6, 0, none⟩) p p) (N := [some ⟨List.map Value.string P, true, 1⟩]) [1] 1 H5 ?_ | refine stm ?_ | refine Ja ?_ | refine Jb ?_ | refine Je ?_ | refine run_nil ?_ | refine sd ?_ | refine sdl ?_ | refine sdb ?_ | refine Jl ?_ | refine rund_nil ?_ | refine Jz ?_ | refine Jw ?_ | refine Jx (id := 3) [0,1,3,7,15,31,63,127,255,511,511,1535,4095,8191,16383] 15 ?_ | refine Jx (id := 4) [0,1,3,0,8,31,63,127,255,511] 7 ?_ | refine aw_block ?_ | refine Jr ?_ | refine Jy ?_ | refine aw_ret ?_
  all_goals first | exact pm_ret _ (renumD [0, 1, 5, 6]) rfl
set_option maxHeartbeats 16000000 in
theorem ac_HearK4i (s : Sto) (n p : Nat) (hn : s.L.length = n) (hp : s.P.length = p) (hb : n ≤ 1000000 ∧ p ≤ 1000000) (hbits : s.bits < 18446744073709551616) (hd : s.data.size ≤ 100000) (hc : chS s = true) (uk uv : Int) (ui : ByteArray) (up ut : Int) (ub : Nat) (ud : ByteArray) (hu : valU uk uv ui up ut ub ud = true) (e : Bool) (he : e = false) (hk : uk = 4) (hv : uv = s.ver) (hi : ui ≠ s.id) : ACalls Tryz.prog 9 [.agg #[.int .i64 s.ver, .string s.id, .bool s.kn, .int .i64 s.mv, .int .i64 s.ms, .int .i64 s.mg, .int .i64 s.mq, .slice (some ⟨0, 0, none⟩) n n, .string s.data, .int .u64 s.bits, .slice (some ⟨1, 0, none⟩) p p], .agg #[.int .i64 uk, .int .i64 uv, .string ui, .int .i64 up, .int .i64 ut, .int .u64 ub, .string ud]] [some ⟨List.map Value.string s.L, false, 1⟩, some ⟨List.map Value.string s.P, false, 1⟩] (.tuple #[.agg #[.int .i64 s.ver, .string s.id, .bool s.kn, .int .i64 s.mv, .int .i64 s.ms, .int .i64 s.mg, .int .i64 s.mq, .slice (some ⟨2, 0, none⟩) n n, .string s.data, .int .u64 s.bits, .slice (some ⟨3, 0, none⟩) p p], .bool e, .int .i64 0]) [none, none, some ⟨List.map Value.string s.L, true, 1⟩, some ⟨List.map Value.string s.P, true, 1⟩] := by
  have H0 := ac_check s n p hn hp hb hbits (by omega) _ hc
  have H1 := ac_valid uk uv ui up ut ub ud _ hu
  have H4 := ac_own s.mv s.ms s.mg s.mq s.L n hn hb.1
  have H5 := ac_cloneS s.P p hp hb.2
  obtain ⟨cp, hcp⟩ : ∃ cp, cpB s = cp := ⟨_, rfl⟩
  have H6 := ac_complete s n p hn hp hb cp hcp
  clear hc hu
  skip
  obtain ⟨ver, id, kn, mv, ms, mg, mq, L, data, bits, P⟩ := s
  dsimp only at *
  subst he
  have hw : decide (ui = id) = false := decide_eq_false hi
  subst hk hv
  clear hcp hbits
  refine acalls_of_aw Tryz.func9 rfl rfl ?_
  repeat' first | refine st (h := ok_str_eqlD rfl rfl hw) ?_ | refine st ?_ | refine stRW [0, 1] H0 ?_ | refine st_call (H1) ?_ | refine sdNR (r' := .agg #[.int .i64 mv, .int .i64 ms, .int .i64 mg, .int .i64 mq, .slice (some ⟨5, 0, none⟩) n n]) (N := [some ⟨List.map Value.string L, true, 1⟩]) [0] 1 H4 ?_ | refine sdNR (r' := .slice (some ⟨6, 0, none⟩) p p) (N := [some ⟨List.map Value.string P, true, 1⟩]) [1] 1 H5 ?_ | refine stm ?_ | refine Ja ?_ | refine Jb ?_ | refine Jd ?_ | refine run_nil ?_ | refine sd ?_ | refine sdl ?_ | refine sdb ?_ | refine Jl ?_ | refine rund_nil ?_ | refine Jz ?_ | refine Jw ?_ | refine Jx (id := 3) [0,1,3,7,15,31,63,127,255,511,511,1535,4095,8191,16383] 15 ?_ | refine Jx (id := 4) [0,1,3,0,8,31,63,127,255,511] 7 ?_ | refine aw_block ?_ | refine Jr ?_ | refine Jy ?_ | refine aw_ret ?_
  all_goals first | exact pm_ret _ (renumD [0, 1, 5, 6]) rfl
set_option maxHeartbeats 16000000 in
theorem ac_HearK4n (s : Sto) (n p : Nat) (hn : s.L.length = n) (hp : s.P.length = p) (hb : n ≤ 1000000 ∧ p ≤ 1000000) (hbits : s.bits < 18446744073709551616) (hd : s.data.size ≤ 100000) (hc : chS s = true) (uk uv : Int) (ui : ByteArray) (up ut : Int) (ub : Nat) (ud : ByteArray) (hu : valU uk uv ui up ut ub ud = true) (e : Bool) (he : e = false) (hk : uk = 4) (hv : uv = s.ver) (hi : ui = s.id) (hkn : s.kn = false) : ACalls Tryz.prog 9 [.agg #[.int .i64 s.ver, .string s.id, .bool s.kn, .int .i64 s.mv, .int .i64 s.ms, .int .i64 s.mg, .int .i64 s.mq, .slice (some ⟨0, 0, none⟩) n n, .string s.data, .int .u64 s.bits, .slice (some ⟨1, 0, none⟩) p p], .agg #[.int .i64 uk, .int .i64 uv, .string ui, .int .i64 up, .int .i64 ut, .int .u64 ub, .string ud]] [some ⟨List.map Value.string s.L, false, 1⟩, some ⟨List.map Value.string s.P, false, 1⟩] (.tuple #[.agg #[.int .i64 s.ver, .string s.id, .bool s.kn, .int .i64 s.mv, .int .i64 s.ms, .int .i64 s.mg, .int .i64 s.mq, .slice (some ⟨2, 0, none⟩) n n, .string s.data, .int .u64 s.bits, .slice (some ⟨3, 0, none⟩) p p], .bool e, .int .i64 0]) [none, none, some ⟨List.map Value.string s.L, true, 1⟩, some ⟨List.map Value.string s.P, true, 1⟩] := by
  have H0 := ac_check s n p hn hp hb hbits (by omega) _ hc
  have H1 := ac_valid uk uv ui up ut ub ud _ hu
  have H4 := ac_own s.mv s.ms s.mg s.mq s.L n hn hb.1
  have H5 := ac_cloneS s.P p hp hb.2
  obtain ⟨cp, hcp⟩ : ∃ cp, cpB s = cp := ⟨_, rfl⟩
  have H6 := ac_complete s n p hn hp hb cp hcp
  clear hc hu
  skip
  obtain ⟨ver, id, kn, mv, ms, mg, mq, L, data, bits, P⟩ := s
  dsimp only at *
  subst he
  subst hk hv hi hkn
  clear hcp hbits
  refine acalls_of_aw Tryz.func9 rfl rfl ?_
  repeat' first | refine st (h := ok_str_eqlT rfl rfl) ?_ | refine st ?_ | refine stRW [0, 1] H0 ?_ | refine st_call (H1) ?_ | refine sdNR (r' := .agg #[.int .i64 mv, .int .i64 ms, .int .i64 mg, .int .i64 mq, .slice (some ⟨5, 0, none⟩) n n]) (N := [some ⟨List.map Value.string L, true, 1⟩]) [0] 1 H4 ?_ | refine sdNR (r' := .slice (some ⟨6, 0, none⟩) p p) (N := [some ⟨List.map Value.string P, true, 1⟩]) [1] 1 H5 ?_ | refine stm ?_ | refine Ja ?_ | refine Jb ?_ | refine Jd ?_ | refine run_nil ?_ | refine sd ?_ | refine sdl ?_ | refine sdb ?_ | refine Jl ?_ | refine rund_nil ?_ | refine Jz ?_ | refine Jw ?_ | refine Jx (id := 3) [0,1,3,7,15,31,63,127,255,511,511,1535,4095,8191,16383] 15 ?_ | refine Jx (id := 4) [0,1,3,0,8,31,63,127,255,511] 7 ?_ | refine aw_block ?_ | refine Jr ?_ | refine Jy ?_ | refine aw_ret ?_
  all_goals first | exact pm_ret _ (renumD [0, 1, 5, 6]) rfl
set_option maxHeartbeats 16000000 in
theorem ac_HearK4c (s : Sto) (n p : Nat) (hn : s.L.length = n) (hp : s.P.length = p) (hb : n ≤ 1000000 ∧ p ≤ 1000000) (hbits : s.bits < 18446744073709551616) (hd : s.data.size ≤ 100000) (hc : chS s = true) (uk uv : Int) (ui : ByteArray) (up ut : Int) (ub : Nat) (ud : ByteArray) (hu : valU uk uv ui up ut ub ud = true) (e : Bool) (he : e = false) (hk : uk = 4) (hv : uv = s.ver) (hi : ui = s.id) (hkn : s.kn = true) (hcc : cpB s = true) : ACalls Tryz.prog 9 [.agg #[.int .i64 s.ver, .string s.id, .bool s.kn, .int .i64 s.mv, .int .i64 s.ms, .int .i64 s.mg, .int .i64 s.mq, .slice (some ⟨0, 0, none⟩) n n, .string s.data, .int .u64 s.bits, .slice (some ⟨1, 0, none⟩) p p], .agg #[.int .i64 uk, .int .i64 uv, .string ui, .int .i64 up, .int .i64 ut, .int .u64 ub, .string ud]] [some ⟨List.map Value.string s.L, false, 1⟩, some ⟨List.map Value.string s.P, false, 1⟩] (.tuple #[.agg #[.int .i64 s.ver, .string s.id, .bool s.kn, .int .i64 s.mv, .int .i64 s.ms, .int .i64 s.mg, .int .i64 s.mq, .slice (some ⟨2, 0, none⟩) n n, .string s.data, .int .u64 s.bits, .slice (some ⟨3, 0, none⟩) p p], .bool e, .int .i64 0]) [none, none, some ⟨List.map Value.string s.L, true, 1⟩, some ⟨List.map Value.string s.P, true, 1⟩] := by
  have H0 := ac_check s n p hn hp hb hbits (by omega) _ hc
  have H1 := ac_valid uk uv ui up ut ub ud _ hu
  have H4 := ac_own s.mv s.ms s.mg s.mq s.L n hn hb.1
  have H5 := ac_cloneS s.P p hp hb.2
  obtain ⟨cp, hcp⟩ : ∃ cp, cpB s = cp := ⟨_, rfl⟩
  have H6 := ac_complete s n p hn hp hb cp hcp
  clear hc hu
  rw [hcp] at hcc
  obtain ⟨ver, id, kn, mv, ms, mg, mq, L, data, bits, P⟩ := s
  dsimp only at *
  subst he
  subst hk hv hi hkn hcc
  clear hcp hbits
  refine acalls_of_aw Tryz.func9 rfl rfl ?_
  repeat' first | refine st (h := ok_str_eqlT rfl rfl) ?_ | refine st ?_ | refine stRW [0, 1] H0 ?_ | refine st_call (H1) ?_ | refine sdNR (r' := .agg #[.int .i64 mv, .int .i64 ms, .int .i64 mg, .int .i64 mq, .slice (some ⟨5, 0, none⟩) n n]) (N := [some ⟨List.map Value.string L, true, 1⟩]) [0] 1 H4 ?_ | refine sdNR (r' := .slice (some ⟨6, 0, none⟩) p p) (N := [some ⟨List.map Value.string P, true, 1⟩]) [1] 1 H5 ?_ | refine stRW [5, 6] H6 ?_ | refine stm ?_ | refine Ja ?_ | refine Jb ?_ | refine Jd ?_ | refine run_nil ?_ | refine sd ?_ | refine sdl ?_ | refine sdb ?_ | refine Jl ?_ | refine rund_nil ?_ | refine Jz ?_ | refine Jw ?_ | refine Jx (id := 3) [0,1,3,7,15,31,63,127,255,511,511,1535,4095,8191,16383] 15 ?_ | refine Jx (id := 4) [0,1,3,0,8,31,63,127,255,511] 7 ?_ | refine aw_block ?_ | refine Jr ?_ | refine Jy ?_ | refine aw_ret ?_
  all_goals first | exact pm_ret _ (renumD [0, 1, 5, 6]) rfl
end Go.Proofs.YtjofcjogbopkjaaGreat
