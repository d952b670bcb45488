/- TopJoins: pens; TopJoins: frames written and read. -/
import Derived.Test.YtdbcbclapipgdaaGreatDoorVO
import Derived.Test.YtdbcbclapipgdaaGreatDoorJ
import Derived.Test.YtdbcbclapipgdaaGreatDoorC5
set_option linter.unusedVariables false
set_option linter.unusedSimpArgs false
namespace Go.Proofs.YtdbcbclapipgdaaGreatDoor
open Go Av
set_option maxRecDepth 20000
theorem run_equalIn_ptr0 {P : Program} (w : World) (d : Nat) (t e : TypeId) (h : P.underlying t = some (.pointer e)) : (Op.equalIn (d + 1) t (.pointer none) (.pointer none)).run P w = .ok true w := by
  simp only [Op.equalIn, Sem.run_bind, run_und h, Result.andThen_ok, Sem.run_pure]
  rfl
theorem ok_ptr_neq0 {P : Program} {ρ : Operand → Option Value} {m : Mem} {d : Option Tmp} {t : TypeId} {pp : String} {af : Array Edge} {g : Option (Nat × Bool)} {xt yt e : TypeId} {x y : Operand} [Ty P xt (.pointer e)] (hx : ρ x = some (.pointer none)) (hy : ρ y = some (.pointer none)) : OpOK P ⟨d, .binOp .neq xt x y yt, t, pp, af, g⟩ ρ m (.bool false) m := .val fun _ _ μ A w _ _ ho => by
  have h1 := ho x _ (by simp [Op.operands]) hx
  have h2 := ho y _ (by simp [Op.operands]) hy
  generalize hX : A.eval x = X at h1
  generalize hY : A.eval y = Y at h2
  cases h1; cases h2
  have hr := run_equalIn_ptr0 w 9999 xt e (Ty.eq (P := P) (t := xt))
  refine ⟨_, ?_, .bool _⟩
  simp only [execOp, hX, hY, eqGuard, binOp, Op.equal, Op.maxDepth]
  first | (split <;> simp [hr]; done) | simp [hr]
set_option maxHeartbeats 8000000 in
theorem ac_puW (w x : Int) (bs bs' Z Z' : List Int) (n n' : Nat) (k k' : Int) (hZ : pack bs = Z) (hn : n = Z.length) (hk : k = bs.length) (hZ' : pack bs' = Z') (hn' : n' = Z'.length) (hk' : k' = bs'.length) (hl : bs.length ≤ 524288) (hst : unsW bs 0 w x = (bs', 0)) (hw : 1 ≤ w ∧ w ≤ 63) (hx : -9223372036854775808 ≤ x ∧ x ≤ 9223372036854775807) (F : List Value) (o : Nat) (hF : F[o]? = some (.int .i64 x)) : ACalls Tryz.prog 146 [.agg #[.pointer (some ⟨0, 0, none⟩), .pointer none], .int .i64 w, .pointer (some ⟨2, o, none⟩)] [some ⟨[.slice (some ⟨1, 0, none⟩) n n, .int .i64 k, .int .i64 0], true, 1⟩, some ⟨List.map (Value.int .u8) Z, true, 1⟩, some ⟨F, false, 1⟩] (.tuple #[]) [some ⟨[.slice (some ⟨3, 0, none⟩) n' n', .int .i64 k', .int .i64 0], true, 1⟩, none, none, some ⟨List.map (Value.int .u8) Z', true, 1⟩] := by
  have H := ac_unsigned w x 0 0 bs bs' Z Z' n n' k k' hZ hn hk hst hZ' hn' hk' hl (by omega) hx
  clear hst hZ hZ' hn hn' hk hk'
  refine acalls_of_aw Tryz.func146 rfl rfl ?_
  repeat' first | refine Own.sol (v := .int .i64 x) (h := ok_load_at rfl rfl rfl hF) ?_ | refine st ?_ | refine Own.soMW [0, 1] H ?_ | refine stm ?_ | refine run_nil ?_ | refine Own.so ?_ | refine Own.sol ?_ | refine Own.runo_nil ?_ | refine Jz ?_ | refine Jw ?_ | refine aw_region_oC (id := 2) [0, 1, 0, 0, 8, 24, 63] 7 [[], [], [], [], [], [], [0, 1]] (by (repeat constructor)) (by kernel_rfl) (by kernel_rfl) (by kernel_rfl) (by rfl) (by rfl) ?_ | refine Jq ?_
  all_goals first | exact pm_normal _ (renumD [0, 1, 2, 4]) rfl
set_option maxHeartbeats 8000000 in
theorem ac_pxW (s : ByteArray) (bs bs' Z Z' : List Int) (n n' : Nat) (k k' : Int) (hZ : pack bs = Z) (hn : n = Z.length) (hk : k = bs.length) (hZ' : pack bs' = Z') (hn' : n' = Z'.length) (hk' : k' = bs'.length) (hl : bs.length ≤ 524288) (hst : txtW bs 0 127 s = (bs', 0)) (hs : s.size ≤ 1000000) (F : List Value) (o : Nat) (hF : F[o]? = some (.string s)) : ACalls Tryz.prog 180 [.agg #[.pointer (some ⟨0, 0, none⟩), .pointer none], .pointer (some ⟨2, o, none⟩)] [some ⟨[.slice (some ⟨1, 0, none⟩) n n, .int .i64 k, .int .i64 0], true, 1⟩, some ⟨List.map (Value.int .u8) Z, true, 1⟩, some ⟨F, false, 1⟩] (.tuple #[]) [some ⟨[.slice (some ⟨3, 0, none⟩) n' n', .int .i64 k', .int .i64 0], true, 1⟩, none, none, some ⟨List.map (Value.int .u8) Z', true, 1⟩] := by
  have H := ac_text 127 s 0 0 bs bs' Z Z' n n' k k' hZ hn hk hst hZ' hn' hk' hl (by omega) hs
  clear hst hZ hZ' hn hn' hk hk'
  refine acalls_of_aw Tryz.func180 rfl rfl ?_
  repeat' first | refine Own.sol (v := .string s) (h := ok_load_at rfl rfl rfl hF) ?_ | refine st ?_ | refine Own.soMW [0, 1] H ?_ | refine stm ?_ | refine run_nil ?_ | refine Own.so ?_ | refine Own.sol ?_ | refine Own.runo_nil ?_ | refine Jz ?_ | refine Jw ?_ | refine aw_region_oC (id := 2) [0, 1, 0, 4, 12, 31] 6 [[], [], [], [], [], [0, 1]] (by (repeat constructor)) (by kernel_rfl) (by kernel_rfl) (by kernel_rfl) (by rfl) (by rfl) ?_ | refine Jq ?_
  all_goals first | exact pm_normal _ (renumD [0, 1, 2, 4]) rfl
set_option maxHeartbeats 8000000 in
theorem ac_ptW (bs bs' Z Z' : List Int) (n n' : Nat) (k k' : Int) (hZ : pack bs = Z) (hn : n = Z.length) (hk : k = bs.length) (hZ' : pack bs' = Z') (hn' : n' = Z'.length) (hk' : k' = bs'.length) (hl : bs.length ≤ 524288) (hst : flgW bs 0 false = (bs', 0)) (g0 g1 g2 g3 g4 g5 g6 g7 g8 g9 g10 : Int) (dt : ByteArray) : ACalls Tryz.prog 147 [.agg #[.pointer (some ⟨0, 0, none⟩), .pointer none], .pointer (some ⟨2, 2, none⟩)] [some ⟨[.slice (some ⟨1, 0, none⟩) n n, .int .i64 k, .int .i64 0], true, 1⟩, some ⟨List.map (Value.int .u8) Z, true, 1⟩, some ⟨[.int .i64 g0, .int .i64 g1, .int .i64 (-1), .int .i64 g3, .int .i64 g4, .int .i64 g5, .int .i64 g6, .int .i64 g7, .int .i64 g8, .int .i64 g9, .int .i64 g10, .string dt], true, 1⟩] (.tuple #[]) [some ⟨[.slice (some ⟨3, 0, none⟩) n' n', .int .i64 k', .int .i64 0], true, 1⟩, none, some ⟨[.int .i64 g0, .int .i64 g1, .int .i64 (-1), .int .i64 g3, .int .i64 g4, .int .i64 g5, .int .i64 g6, .int .i64 g7, .int .i64 g8, .int .i64 g9, .int .i64 g10, .string dt], true, 1⟩, some ⟨List.map (Value.int .u8) Z', true, 1⟩] := by
  have H := ac_flag false 0 0 bs bs' Z Z' n n' k k' hZ hn hk hst hZ' hn' hk' hl
  clear hst hZ hZ' hn hn' hk hk'
  refine acalls_of_aw Tryz.func147 rfl rfl ?_
  repeat' first | refine st ?_ | refine stMW [0, 1] H ?_ | refine stm ?_ | refine run_nil ?_ | refine Jz ?_ | refine Jw ?_ | refine Jq ?_ | refine Jr ?_
  all_goals first | exact pm_normal _ (renumD [0, 1, 2, 4]) rfl
set_option maxHeartbeats 8000000 in
theorem ac_puq_0 (w v : Int) (d : ByteArray) (a a' : Nat) (hst : unsR d a 0 w = (v, a', 0)) (ha : a ≤ 8 * d.size) (hd : d.size ≤ 1000000) (hw : 1 ≤ w ∧ w ≤ 63) (g0 g1 g2 g3 g4 g5 g6 g7 g8 g9 g10 : Int) (dt : ByteArray) : ACalls Tryz.prog 146 [.agg #[.pointer none, .pointer (some ⟨0, 0, none⟩)], .int .i64 w, .pointer (some ⟨1, 0, none⟩)] [some ⟨[.string d, .int .i64 (a : Int), .int .i64 0], true, 1⟩, some ⟨[.int .i64 g0, .int .i64 g1, .int .i64 g2, .int .i64 g3, .int .i64 g4, .int .i64 g5, .int .i64 g6, .int .i64 g7, .int .i64 g8, .int .i64 g9, .int .i64 g10, .string dt], true, 1⟩] (.tuple #[]) [some ⟨[.string d, .int .i64 (a' : Int), .int .i64 0], true, 1⟩, some ⟨[.int .i64 v, .int .i64 g1, .int .i64 g2, .int .i64 g3, .int .i64 g4, .int .i64 g5, .int .i64 g6, .int .i64 g7, .int .i64 g8, .int .i64 g9, .int .i64 g10, .string dt], true, 1⟩] := by
  have H := ac_unsR w 0 0 v a a' d hst ha hd (by omega)
  clear hst
  refine acalls_of_aw Tryz.func146 rfl rfl ?_
  repeat' first | refine st (h := ok_ptr_neq0 rfl rfl) ?_ | refine st ?_ | refine stMW [0] H ?_ | refine stm ?_ | refine run_nil ?_ | refine Jz ?_ | refine Jw ?_ | refine Jr ?_
  all_goals first | exact pm_normal _ (renumD [0, 1]) rfl
set_option maxHeartbeats 8000000 in
theorem ac_puq_1 (w v : Int) (d : ByteArray) (a a' : Nat) (hst : unsR d a 0 w = (v, a', 0)) (ha : a ≤ 8 * d.size) (hd : d.size ≤ 1000000) (hw : 1 ≤ w ∧ w ≤ 63) (g0 g1 g2 g3 g4 g5 g6 g7 g8 g9 g10 : Int) (dt : ByteArray) : ACalls Tryz.prog 146 [.agg #[.pointer none, .pointer (some ⟨0, 0, none⟩)], .int .i64 w, .pointer (some ⟨1, 1, none⟩)] [some ⟨[.string d, .int .i64 (a : Int), .int .i64 0], true, 1⟩, some ⟨[.int .i64 g0, .int .i64 g1, .int .i64 g2, .int .i64 g3, .int .i64 g4, .int .i64 g5, .int .i64 g6, .int .i64 g7, .int .i64 g8, .int .i64 g9, .int .i64 g10, .string dt], true, 1⟩] (.tuple #[]) [some ⟨[.string d, .int .i64 (a' : Int), .int .i64 0], true, 1⟩, some ⟨[.int .i64 g0, .int .i64 v, .int .i64 g2, .int .i64 g3, .int .i64 g4, .int .i64 g5, .int .i64 g6, .int .i64 g7, .int .i64 g8, .int .i64 g9, .int .i64 g10, .string dt], true, 1⟩] := by
  have H := ac_unsR w 0 0 v a a' d hst ha hd (by omega)
  clear hst
  refine acalls_of_aw Tryz.func146 rfl rfl ?_
  repeat' first | refine st (h := ok_ptr_neq0 rfl rfl) ?_ | refine st ?_ | refine stMW [0] H ?_ | refine stm ?_ | refine run_nil ?_ | refine Jz ?_ | refine Jw ?_ | refine Jr ?_
  all_goals first | exact pm_normal _ (renumD [0, 1]) rfl
set_option maxHeartbeats 8000000 in
theorem ac_puq_3 (w v : Int) (d : ByteArray) (a a' : Nat) (hst : unsR d a 0 w = (v, a', 0)) (ha : a ≤ 8 * d.size) (hd : d.size ≤ 1000000) (hw : 1 ≤ w ∧ w ≤ 63) (g0 g1 g2 g3 g4 g5 g6 g7 g8 g9 g10 : Int) (dt : ByteArray) : ACalls Tryz.prog 146 [.agg #[.pointer none, .pointer (some ⟨0, 0, none⟩)], .int .i64 w, .pointer (some ⟨1, 3, none⟩)] [some ⟨[.string d, .int .i64 (a : Int), .int .i64 0], true, 1⟩, some ⟨[.int .i64 g0, .int .i64 g1, .int .i64 g2, .int .i64 g3, .int .i64 g4, .int .i64 g5, .int .i64 g6, .int .i64 g7, .int .i64 g8, .int .i64 g9, .int .i64 g10, .string dt], true, 1⟩] (.tuple #[]) [some ⟨[.string d, .int .i64 (a' : Int), .int .i64 0], true, 1⟩, some ⟨[.int .i64 g0, .int .i64 g1, .int .i64 g2, .int .i64 v, .int .i64 g4, .int .i64 g5, .int .i64 g6, .int .i64 g7, .int .i64 g8, .int .i64 g9, .int .i64 g10, .string dt], true, 1⟩] := by
  have H := ac_unsR w 0 0 v a a' d hst ha hd (by omega)
  clear hst
  refine acalls_of_aw Tryz.func146 rfl rfl ?_
  repeat' first | refine st (h := ok_ptr_neq0 rfl rfl) ?_ | refine st ?_ | refine stMW [0] H ?_ | refine stm ?_ | refine run_nil ?_ | refine Jz ?_ | refine Jw ?_ | refine Jr ?_
  all_goals first | exact pm_normal _ (renumD [0, 1]) rfl
set_option maxHeartbeats 8000000 in
theorem ac_puq_4 (w v : Int) (d : ByteArray) (a a' : Nat) (hst : unsR d a 0 w = (v, a', 0)) (ha : a ≤ 8 * d.size) (hd : d.size ≤ 1000000) (hw : 1 ≤ w ∧ w ≤ 63) (g0 g1 g2 g3 g4 g5 g6 g7 g8 g9 g10 : Int) (dt : ByteArray) : ACalls Tryz.prog 146 [.agg #[.pointer none, .pointer (some ⟨0, 0, none⟩)], .int .i64 w, .pointer (some ⟨1, 4, none⟩)] [some ⟨[.string d, .int .i64 (a : Int), .int .i64 0], true, 1⟩, some ⟨[.int .i64 g0, .int .i64 g1, .int .i64 g2, .int .i64 g3, .int .i64 g4, .int .i64 g5, .int .i64 g6, .int .i64 g7, .int .i64 g8, .int .i64 g9, .int .i64 g10, .string dt], true, 1⟩] (.tuple #[]) [some ⟨[.string d, .int .i64 (a' : Int), .int .i64 0], true, 1⟩, some ⟨[.int .i64 g0, .int .i64 g1, .int .i64 g2, .int .i64 g3, .int .i64 v, .int .i64 g5, .int .i64 g6, .int .i64 g7, .int .i64 g8, .int .i64 g9, .int .i64 g10, .string dt], true, 1⟩] := by
  have H := ac_unsR w 0 0 v a a' d hst ha hd (by omega)
  clear hst
  refine acalls_of_aw Tryz.func146 rfl rfl ?_
  repeat' first | refine st (h := ok_ptr_neq0 rfl rfl) ?_ | refine st ?_ | refine stMW [0] H ?_ | refine stm ?_ | refine run_nil ?_ | refine Jz ?_ | refine Jw ?_ | refine Jr ?_
  all_goals first | exact pm_normal _ (renumD [0, 1]) rfl
set_option maxHeartbeats 8000000 in
theorem ac_puq_8 (w v : Int) (d : ByteArray) (a a' : Nat) (hst : unsR d a 0 w = (v, a', 0)) (ha : a ≤ 8 * d.size) (hd : d.size ≤ 1000000) (hw : 1 ≤ w ∧ w ≤ 63) (g0 g1 g2 g3 g4 g5 g6 g7 g8 g9 g10 : Int) (dt : ByteArray) : ACalls Tryz.prog 146 [.agg #[.pointer none, .pointer (some ⟨0, 0, none⟩)], .int .i64 w, .pointer (some ⟨1, 8, none⟩)] [some ⟨[.string d, .int .i64 (a : Int), .int .i64 0], true, 1⟩, some ⟨[.int .i64 g0, .int .i64 g1, .int .i64 g2, .int .i64 g3, .int .i64 g4, .int .i64 g5, .int .i64 g6, .int .i64 g7, .int .i64 g8, .int .i64 g9, .int .i64 g10, .string dt], true, 1⟩] (.tuple #[]) [some ⟨[.string d, .int .i64 (a' : Int), .int .i64 0], true, 1⟩, some ⟨[.int .i64 g0, .int .i64 g1, .int .i64 g2, .int .i64 g3, .int .i64 g4, .int .i64 g5, .int .i64 g6, .int .i64 g7, .int .i64 v, .int .i64 g9, .int .i64 g10, .string dt], true, 1⟩] := by
  have H := ac_unsR w 0 0 v a a' d hst ha hd (by omega)
  clear hst
  refine acalls_of_aw Tryz.func146 rfl rfl ?_
  repeat' first | refine st (h := ok_ptr_neq0 rfl rfl) ?_ | refine st ?_ | refine stMW [0] H ?_ | refine stm ?_ | refine run_nil ?_ | refine Jz ?_ | refine Jw ?_ | refine Jr ?_
  all_goals first | exact pm_normal _ (renumD [0, 1]) rfl
set_option maxHeartbeats 8000000 in
theorem ac_puq_9 (w v : Int) (d : ByteArray) (a a' : Nat) (hst : unsR d a 0 w = (v, a', 0)) (ha : a ≤ 8 * d.size) (hd : d.size ≤ 1000000) (hw : 1 ≤ w ∧ w ≤ 63) (g0 g1 g2 g3 g4 g5 g6 g7 g8 g9 g10 : Int) (dt : ByteArray) : ACalls Tryz.prog 146 [.agg #[.pointer none, .pointer (some ⟨0, 0, none⟩)], .int .i64 w, .pointer (some ⟨1, 9, none⟩)] [some ⟨[.string d, .int .i64 (a : Int), .int .i64 0], true, 1⟩, some ⟨[.int .i64 g0, .int .i64 g1, .int .i64 g2, .int .i64 g3, .int .i64 g4, .int .i64 g5, .int .i64 g6, .int .i64 g7, .int .i64 g8, .int .i64 g9, .int .i64 g10, .string dt], true, 1⟩] (.tuple #[]) [some ⟨[.string d, .int .i64 (a' : Int), .int .i64 0], true, 1⟩, some ⟨[.int .i64 g0, .int .i64 g1, .int .i64 g2, .int .i64 g3, .int .i64 g4, .int .i64 g5, .int .i64 g6, .int .i64 g7, .int .i64 g8, .int .i64 v, .int .i64 g10, .string dt], true, 1⟩] := by
  have H := ac_unsR w 0 0 v a a' d hst ha hd (by omega)
  clear hst
  refine acalls_of_aw Tryz.func146 rfl rfl ?_
  repeat' first | refine st (h := ok_ptr_neq0 rfl rfl) ?_ | refine st ?_ | refine stMW [0] H ?_ | refine stm ?_ | refine run_nil ?_ | refine Jz ?_ | refine Jw ?_ | refine Jr ?_
  all_goals first | exact pm_normal _ (renumD [0, 1]) rfl
set_option maxHeartbeats 8000000 in
theorem ac_puq_10 (w v : Int) (d : ByteArray) (a a' : Nat) (hst : unsR d a 0 w = (v, a', 0)) (ha : a ≤ 8 * d.size) (hd : d.size ≤ 1000000) (hw : 1 ≤ w ∧ w ≤ 63) (g0 g1 g2 g3 g4 g5 g6 g7 g8 g9 g10 : Int) (dt : ByteArray) : ACalls Tryz.prog 146 [.agg #[.pointer none, .pointer (some ⟨0, 0, none⟩)], .int .i64 w, .pointer (some ⟨1, 10, none⟩)] [some ⟨[.string d, .int .i64 (a : Int), .int .i64 0], true, 1⟩, some ⟨[.int .i64 g0, .int .i64 g1, .int .i64 g2, .int .i64 g3, .int .i64 g4, .int .i64 g5, .int .i64 g6, .int .i64 g7, .int .i64 g8, .int .i64 g9, .int .i64 g10, .string dt], true, 1⟩] (.tuple #[]) [some ⟨[.string d, .int .i64 (a' : Int), .int .i64 0], true, 1⟩, some ⟨[.int .i64 g0, .int .i64 g1, .int .i64 g2, .int .i64 g3, .int .i64 g4, .int .i64 g5, .int .i64 g6, .int .i64 g7, .int .i64 g8, .int .i64 g9, .int .i64 v, .string dt], true, 1⟩] := by
  have H := ac_unsR w 0 0 v a a' d hst ha hd (by omega)
  clear hst
  refine acalls_of_aw Tryz.func146 rfl rfl ?_
  repeat' first | refine st (h := ok_ptr_neq0 rfl rfl) ?_ | refine st ?_ | refine stMW [0] H ?_ | refine stm ?_ | refine run_nil ?_ | refine Jz ?_ | refine Jw ?_ | refine Jr ?_
  all_goals first | exact pm_normal _ (renumD [0, 1]) rfl
set_option maxHeartbeats 8000000 in
theorem ac_pxq (t : ByteArray) (d : ByteArray) (a a' : Nat) (hst : txtR d a 0 127 = (t, a', 0)) (ha : a ≤ 8 * d.size) (hd : d.size ≤ 1000000) (g0 g1 g2 g3 g4 g5 g6 g7 g8 g9 g10 : Int) (dt : ByteArray) : ACalls Tryz.prog 180 [.agg #[.pointer none, .pointer (some ⟨0, 0, none⟩)], .pointer (some ⟨1, 11, none⟩)] [some ⟨[.string d, .int .i64 (a : Int), .int .i64 0], true, 1⟩, some ⟨[.int .i64 g0, .int .i64 g1, .int .i64 g2, .int .i64 g3, .int .i64 g4, .int .i64 g5, .int .i64 g6, .int .i64 g7, .int .i64 g8, .int .i64 g9, .int .i64 g10, .string dt], true, 1⟩] (.tuple #[]) [some ⟨[.string d, .int .i64 (a' : Int), .int .i64 0], true, 1⟩, some ⟨[.int .i64 g0, .int .i64 g1, .int .i64 g2, .int .i64 g3, .int .i64 g4, .int .i64 g5, .int .i64 g6, .int .i64 g7, .int .i64 g8, .int .i64 g9, .int .i64 g10, .string t], true, 1⟩] := by
  have H := ac_txtR 127 0 0 t a a' d hst ha hd (by omega)
  clear hst
  refine acalls_of_aw Tryz.func180 rfl rfl ?_
  repeat' first | refine st (h := ok_ptr_neq0 rfl rfl) ?_ | refine st ?_ | refine stMW [0] H ?_ | refine stm ?_ | refine run_nil ?_ | refine Jz ?_ | refine Jw ?_ | refine Jr ?_
  all_goals first | exact pm_normal _ (renumD [0, 1]) rfl
set_option maxHeartbeats 8000000 in
theorem ac_ptq (d : ByteArray) (a a' : Nat) (hst : flgR d a 0 = (false, a', 0)) (ha : a ≤ 8 * d.size) (hd : d.size ≤ 1000000) (g0 g1 g2 g3 g4 g5 g6 g7 g8 g9 g10 : Int) (dt : ByteArray) : ACalls Tryz.prog 147 [.agg #[.pointer none, .pointer (some ⟨0, 0, none⟩)], .pointer (some ⟨1, 2, none⟩)] [some ⟨[.string d, .int .i64 (a : Int), .int .i64 0], true, 1⟩, some ⟨[.int .i64 g0, .int .i64 g1, .int .i64 g2, .int .i64 g3, .int .i64 g4, .int .i64 g5, .int .i64 g6, .int .i64 g7, .int .i64 g8, .int .i64 g9, .int .i64 g10, .string dt], true, 1⟩] (.tuple #[]) [some ⟨[.string d, .int .i64 (a' : Int), .int .i64 0], true, 1⟩, some ⟨[.int .i64 g0, .int .i64 g1, .int .i64 (-1), .int .i64 g3, .int .i64 g4, .int .i64 g5, .int .i64 g6, .int .i64 g7, .int .i64 g8, .int .i64 g9, .int .i64 g10, .string dt], true, 1⟩] := by
  have H := ac_flgR 0 0 false a a' d hst ha hd
  clear hst
  refine acalls_of_aw Tryz.func147 rfl rfl ?_
  repeat' first | refine st (h := ok_ptr_neq0 rfl rfl) ?_ | refine st ?_ | refine stMW [0] H ?_ | refine stm ?_ | refine run_nil ?_ | refine Jz ?_ | refine Jw ?_ | refine Jr ?_
  all_goals first | exact pm_normal _ (renumD [0, 1]) rfl
theorem ok_lookupT {P : Program} {ρ : Operand → Option Value} {m : Mem} {d : Option Tmp} {t : TypeId} {pp : String} {af : Array Edge} {g : Option (Nat × Bool)} {t' kt et : TypeId} {k : IntKind} {x y : Operand} {id : Nat} {n : Int} {v : Value} {B : Blk} [Ty P t' (.map kt et)] [Ty P kt (.int k)] (hx : ρ x = some (.map (some id))) (hy : ρ y = some (.int k n)) (hB : live m id = some B) (hz : Nat.beq B.z mapZ = true) (hat : atKey? k n B.cells = some v) :
    OpOK P ⟨d, .lookup t' x y true, t, pp, af, g⟩ ρ m (.tuple #[v, .bool true]) m := .val fun F w0 μ A w hd hm ho => by
  obtain ⟨L, hL, e1⟩ := (ho x _ (by simp [Op.operands]) hx).map'
  have e2 := (ho y _ (by simp [Op.operands]) hy).int'
  obtain ⟨r1, r2, es, c, r3, r4, r5⟩ := hm.mapAt hB (Nat.eq_of_beq_eq_true hz) hL (.inr (by intro h; rw [h] at hat; cases hat))
  obtain ⟨j, u, u1, u2⟩ := findNow_at (kd := k) r5 v hat 0
  refine ⟨.tuple #[u, .bool true], ?_, .tuple rfl fun i a b ha hb => ?_⟩
  · simp [execOp, e1, e2, Instr.lookup, run_und (Ty.eq (P := P) (t := t')), MapKept.run_getObj_map r3, MapKept.run_checkKey (Ty.eq (P := P) (t := kt)) (k := .int k n) (by simp [MapKept.IsKey]), MapKept.run_findKey (Ty.eq (P := P) (t := kt)) u1, Result.andThen]
  · match i with
    | 0 => simp at ha hb; subst ha hb; exact u2
    | 1 => simp at ha hb; subst ha hb; exact .bool true
    | k + 2 => simp at ha
set_option maxHeartbeats 8000000 in
theorem ac_pbW (n0 n1 n2 n3 n4 : Nat) (k0 k1 k2 k3 k4 : Int) (Z0 Z1 Z2 Z3 Z4 : List Int) (g0 g1 g2 g3 g4 g5 g6 g7 g8 g9 g10 : Int) (dt : ByteArray) (H1 : ACalls Tryz.prog 146 [.agg #[.pointer (some ⟨0, 0, none⟩), .pointer none], .int .i64 27, .pointer (some ⟨2, 8, none⟩)] [some ⟨[.slice (some ⟨1, 0, none⟩) n0 n0, .int .i64 k0, .int .i64 0], true, 1⟩, some ⟨List.map (Value.int .u8) Z0, true, 1⟩, some ⟨[.int .i64 g0, .int .i64 g1, .int .i64 g2, .int .i64 g3, .int .i64 g4, .int .i64 g5, .int .i64 g6, .int .i64 g7, .int .i64 g8, .int .i64 g9, .int .i64 g10, .string dt], false, 1⟩] (.tuple #[]) [some ⟨[.slice (some ⟨3, 0, none⟩) n1 n1, .int .i64 k1, .int .i64 0], true, 1⟩, none, none, some ⟨List.map (Value.int .u8) Z1, true, 1⟩]) (H2 : ACalls Tryz.prog 146 [.agg #[.pointer (some ⟨0, 0, none⟩), .pointer none], .int .i64 16, .pointer (some ⟨2, 9, none⟩)] [some ⟨[.slice (some ⟨1, 0, none⟩) n1 n1, .int .i64 k1, .int .i64 0], true, 1⟩, some ⟨List.map (Value.int .u8) Z1, true, 1⟩, some ⟨[.int .i64 g0, .int .i64 g1, .int .i64 g2, .int .i64 g3, .int .i64 g4, .int .i64 g5, .int .i64 g6, .int .i64 g7, .int .i64 g8, .int .i64 g9, .int .i64 g10, .string dt], false, 1⟩] (.tuple #[]) [some ⟨[.slice (some ⟨3, 0, none⟩) n2 n2, .int .i64 k2, .int .i64 0], true, 1⟩, none, none, some ⟨List.map (Value.int .u8) Z2, true, 1⟩]) (H3 : ACalls Tryz.prog 146 [.agg #[.pointer (some ⟨0, 0, none⟩), .pointer none], .int .i64 16, .pointer (some ⟨2, 10, none⟩)] [some ⟨[.slice (some ⟨1, 0, none⟩) n2 n2, .int .i64 k2, .int .i64 0], true, 1⟩, some ⟨List.map (Value.int .u8) Z2, true, 1⟩, some ⟨[.int .i64 g0, .int .i64 g1, .int .i64 g2, .int .i64 g3, .int .i64 g4, .int .i64 g5, .int .i64 g6, .int .i64 g7, .int .i64 g8, .int .i64 g9, .int .i64 g10, .string dt], false, 1⟩] (.tuple #[]) [some ⟨[.slice (some ⟨3, 0, none⟩) n3 n3, .int .i64 k3, .int .i64 0], true, 1⟩, none, none, some ⟨List.map (Value.int .u8) Z3, true, 1⟩]) (H4 : ACalls Tryz.prog 180 [.agg #[.pointer (some ⟨0, 0, none⟩), .pointer none], .pointer (some ⟨2, 11, none⟩)] [some ⟨[.slice (some ⟨1, 0, none⟩) n3 n3, .int .i64 k3, .int .i64 0], true, 1⟩, some ⟨List.map (Value.int .u8) Z3, true, 1⟩, some ⟨[.int .i64 g0, .int .i64 g1, .int .i64 g2, .int .i64 g3, .int .i64 g4, .int .i64 g5, .int .i64 g6, .int .i64 g7, .int .i64 g8, .int .i64 g9, .int .i64 g10, .string dt], false, 1⟩] (.tuple #[]) [some ⟨[.slice (some ⟨3, 0, none⟩) n4 n4, .int .i64 k4, .int .i64 0], true, 1⟩, none, none, some ⟨List.map (Value.int .u8) Z4, true, 1⟩]) : ACalls Tryz.prog 144 [.agg #[.pointer (some ⟨0, 0, none⟩), .pointer none], .pointer (some ⟨2, 0, none⟩)] [some ⟨[.slice (some ⟨1, 0, none⟩) n0 n0, .int .i64 k0, .int .i64 0], true, 1⟩, some ⟨List.map (Value.int .u8) Z0, true, 1⟩, some ⟨[.int .i64 g0, .int .i64 g1, .int .i64 g2, .int .i64 g3, .int .i64 g4, .int .i64 g5, .int .i64 g6, .int .i64 g7, .int .i64 g8, .int .i64 g9, .int .i64 g10, .string dt], false, 1⟩] (.tuple #[]) [some ⟨[.slice (some ⟨3, 0, none⟩) n4 n4, .int .i64 k4, .int .i64 0], true, 1⟩, none, none, some ⟨List.map (Value.int .u8) Z4, true, 1⟩] := by
  refine acalls_of_aw Tryz.func144 rfl rfl ?_
  repeat' first | refine Own.soMW [0, 1, 2] H1 ?_ | refine Own.soMW [0, 4, 2] H2 ?_ | refine Own.soMW [0, 5, 2] H3 ?_ | refine Own.soMW [0, 6, 2] H4 ?_ | refine stm ?_ | refine run_nil ?_ | refine Own.so ?_ | refine Own.sol ?_ | refine Own.runo_nil ?_ | refine Jz ?_ | refine Jw ?_ | refine aw_region_oC (id := 1) [0, 0, 2, 6, 15] 5 [[], [], [], [], [0, 1]] (by (repeat constructor)) (by kernel_rfl) (by kernel_rfl) (by kernel_rfl) (by rfl) (by rfl) ?_ | refine aw_region_oC (id := 2) [0, 0, 2, 6, 15] 5 [[], [], [], [], [0, 4]] (by (repeat constructor)) (by kernel_rfl) (by kernel_rfl) (by kernel_rfl) (by rfl) (by rfl) ?_ | refine aw_region_oC (id := 3) [0, 0, 2, 6, 15] 5 [[], [], [], [], [0, 5]] (by (repeat constructor)) (by kernel_rfl) (by kernel_rfl) (by kernel_rfl) (by rfl) (by rfl) ?_ | refine aw_region_oC (id := 4) [0, 0, 2, 6, 15] 5 [[], [], [], [], [0, 6]] (by (repeat constructor)) (by kernel_rfl) (by kernel_rfl) (by kernel_rfl) (by rfl) (by rfl) ?_
  all_goals first | exact pm_normal _ (renumD [0, 1, 2, 7]) rfl
end Go.Proofs.YtdbcbclapipgdaaGreatDoor
