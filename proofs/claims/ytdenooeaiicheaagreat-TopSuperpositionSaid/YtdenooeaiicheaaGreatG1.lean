/- Frames: pens that write. -/
import Derived.Test.YtdenooeaiicheaaGreatBA
import Derived.Test.YtdenooeaiicheaaGreatVL
import Derived.Test.YtdenooeaiicheaaGreatJ
set_option linter.unusedVariables false
set_option linter.unusedSimpArgs false
namespace Go.Proofs.YtdenooeaiicheaaGreat
open Go Av
set_option maxRecDepth 20000
theorem ok_geqD {P : Program} {ρ : Operand → Option Value} {m : Mem} {dd : Option Tmp} {t : TypeId} {pp : String} {af : Array Edge} {g : Option (Nat × Bool)} {xt yt : TypeId} {x y : Operand} {k : IntKind} {a b : Int} {c : Bool} (hx : ρ x = some (.int k a)) (hy : ρ y = some (.int k b)) (h : decide (b ≤ a) = c) : OpOK P ⟨dd, .binOp .geq xt x y yt, t, pp, af, g⟩ ρ m (.bool c) m := by
  subst h
  exact ok_geq hx hy
set_option maxHeartbeats 8000000 in
theorem ac_puW (w x : Int) (e e' : Int) (bs bs' Z Z' : List Int) (n n' : Nat) (k k' : Int) (hZ : pack bs = Z) (hn : n = Z.length) (hk : k = bs.length) (hZ' : pack bs' = Z') (hn' : n' = Z'.length) (hk' : k' = bs'.length) (hl : bs.length ≤ 524288) (hst : unsW bs e w x = (bs', e')) (hw : 1 ≤ w ∧ w ≤ 63) (hx : -9223372036854775808 ≤ x ∧ x ≤ 9223372036854775807) (F : List Value) (o : Nat) (hF : F[o]? = some (.int .i64 x)) : ACalls Tryz.prog 88 [.agg #[.pointer (some ⟨0, 0, none⟩), .pointer none], .int .i64 w, .pointer (some ⟨2, o, none⟩)] [some ⟨[.slice (some ⟨1, 0, none⟩) n n, .int .i64 k, .int .i64 e], true, 1⟩, some ⟨List.map (Value.int .u8) Z, true, 1⟩, some ⟨F, false, 1⟩] (.tuple #[]) [some ⟨[.slice (some ⟨3, 0, none⟩) n' n', .int .i64 k', .int .i64 e'], true, 1⟩, none, none, some ⟨List.map (Value.int .u8) Z', true, 1⟩] := by
  have H := ac_unsigned w x e e' bs bs' Z Z' n n' k k' hZ hn hk hst hZ' hn' hk' hl (by omega) hx
  clear hst hZ hZ' hn hn' hk hk'
  refine acalls_of_aw Tryz.func88 rfl rfl ?_
  repeat' first | refine Own.sol (v := .int .i64 x) (h := ok_load_at rfl rfl rfl hF) ?_ | refine st ?_ | refine Own.soMW [0, 1] H ?_ | refine stm ?_ | refine run_nil ?_ | refine Own.so ?_ | refine Own.sol ?_ | refine Own.runo_nil ?_ | refine Jz ?_ | refine Jw ?_ | refine aw_region_oC (id := 2) [0, 1, 0, 0, 8, 24, 63] 7 [[], [], [], [], [], [], [0, 1]] (by (repeat constructor)) (by kernel_rfl) (by kernel_rfl) (by kernel_rfl) (by rfl) (by rfl) ?_ | refine Jq ?_
  all_goals first | exact pm_normal _ (renumD [0, 1, 2, 4]) rfl
set_option maxHeartbeats 8000000 in
theorem ac_pxW (s : ByteArray) (e e' : Int) (bs bs' Z Z' : List Int) (n n' : Nat) (k k' : Int) (hZ : pack bs = Z) (hn : n = Z.length) (hk : k = bs.length) (hZ' : pack bs' = Z') (hn' : n' = Z'.length) (hk' : k' = bs'.length) (hl : bs.length ≤ 524288) (hst : txtW bs e 127 s = (bs', e')) (hs : s.size ≤ 1000000) (F : List Value) (o : Nat) (hF : F[o]? = some (.string s)) : ACalls Tryz.prog 101 [.agg #[.pointer (some ⟨0, 0, none⟩), .pointer none], .pointer (some ⟨2, o, none⟩)] [some ⟨[.slice (some ⟨1, 0, none⟩) n n, .int .i64 k, .int .i64 e], true, 1⟩, some ⟨List.map (Value.int .u8) Z, true, 1⟩, some ⟨F, false, 1⟩] (.tuple #[]) [some ⟨[.slice (some ⟨3, 0, none⟩) n' n', .int .i64 k', .int .i64 e'], true, 1⟩, none, none, some ⟨List.map (Value.int .u8) Z', true, 1⟩] := by
  have H := ac_text 127 s e e' bs bs' Z Z' n n' k k' hZ hn hk hst hZ' hn' hk' hl (by omega) hs
  clear hst hZ hZ' hn hn' hk hk'
  refine acalls_of_aw Tryz.func101 rfl rfl ?_
  repeat' first | refine Own.sol (v := .string s) (h := ok_load_at rfl rfl rfl hF) ?_ | refine st ?_ | refine Own.soMW [0, 1] H ?_ | refine stm ?_ | refine run_nil ?_ | refine Own.so ?_ | refine Own.sol ?_ | refine Own.runo_nil ?_ | refine Jz ?_ | refine Jw ?_ | refine aw_region_oC (id := 2) [0, 1, 0, 4, 12, 31] 6 [[], [], [], [], [], [0, 1]] (by (repeat constructor)) (by kernel_rfl) (by kernel_rfl) (by kernel_rfl) (by rfl) (by rfl) ?_ | refine Jq ?_
  all_goals first | exact pm_normal _ (renumD [0, 1, 2, 4]) rfl
set_option maxHeartbeats 8000000 in
theorem ac_pt0W (e e' : Int) (bs bs' Z Z' : List Int) (n n' : Nat) (k k' : Int) (hZ : pack bs = Z) (hn : n = Z.length) (hk : k = bs.length) (hZ' : pack bs' = Z') (hn' : n' = Z'.length) (hk' : k' = bs'.length) (hl : bs.length ≤ 524288) (hst : flgW bs e false = (bs', e')) (g0 g1 g2 g3 g4 g5 g6 g7 g8 g9 g10 : Int) (dt : ByteArray) : ACalls Tryz.prog 89 [.agg #[.pointer (some ⟨0, 0, none⟩), .pointer none], .pointer (some ⟨2, 2, none⟩)] [some ⟨[.slice (some ⟨1, 0, none⟩) n n, .int .i64 k, .int .i64 e], true, 1⟩, some ⟨List.map (Value.int .u8) Z, true, 1⟩, some ⟨[.int .i64 g0, .int .i64 g1, .int .i64 (-1), .int .i64 g3, .int .i64 g4, .int .i64 g5, .int .i64 g6, .int .i64 g7, .int .i64 g8, .int .i64 g9, .int .i64 g10, .string dt], true, 1⟩] (.tuple #[]) [some ⟨[.slice (some ⟨3, 0, none⟩) n' n', .int .i64 k', .int .i64 e'], true, 1⟩, none, some ⟨[.int .i64 g0, .int .i64 g1, .int .i64 (-1), .int .i64 g3, .int .i64 g4, .int .i64 g5, .int .i64 g6, .int .i64 g7, .int .i64 g8, .int .i64 g9, .int .i64 g10, .string dt], true, 1⟩, some ⟨List.map (Value.int .u8) Z', true, 1⟩] := by
  have H := ac_flag false e e' bs bs' Z Z' n n' k k' hZ hn hk hst hZ' hn' hk' hl
  clear hst hZ hZ' hn hn' hk hk'
  refine acalls_of_aw Tryz.func89 rfl rfl ?_
  repeat' first | refine st ?_ | refine stMW [0, 1] H ?_ | refine stm ?_ | refine run_nil ?_ | refine Jz ?_ | refine Jw ?_ | refine Jq ?_ | refine Jr ?_
  all_goals first | exact pm_normal _ (renumD [0, 1, 2, 4]) rfl
set_option maxHeartbeats 8000000 in
theorem ac_pt1W (n1 : Nat) (k1 e1 : Int) (Z1 : List Int) (b1 : List Int) (g2 : Int) (e e' : Int) (bs bs' Z Z' : List Int) (n n' : Nat) (k k' : Int) (hZ : pack bs = Z) (hn : n = Z.length) (hk : k = bs.length) (hZ' : pack bs' = Z') (hn' : n' = Z'.length) (hk' : k' = bs'.length) (hl : bs.length ≤ 524288) (hst : flgW bs e true = (b1, e1)) (hZ1 : pack b1 = Z1) (hn1 : n1 = Z1.length) (hk1 : k1 = b1.length) (hl1 : b1.length ≤ 524288) (hst1 : unsW b1 e1 5 g2 = (bs', e')) (g0 g1 g3 g4 g5 g6 g7 g8 g9 g10 : Int) (dt : ByteArray) (hx : 0 ≤ g2 ∧ g2 ≤ 31) : ACalls Tryz.prog 89 [.agg #[.pointer (some ⟨0, 0, none⟩), .pointer none], .pointer (some ⟨2, 2, none⟩)] [some ⟨[.slice (some ⟨1, 0, none⟩) n n, .int .i64 k, .int .i64 e], true, 1⟩, some ⟨List.map (Value.int .u8) Z, true, 1⟩, some ⟨[.int .i64 g0, .int .i64 g1, .int .i64 g2, .int .i64 g3, .int .i64 g4, .int .i64 g5, .int .i64 g6, .int .i64 g7, .int .i64 g8, .int .i64 g9, .int .i64 g10, .string dt], true, 1⟩] (.tuple #[]) [some ⟨[.slice (some ⟨3, 0, none⟩) n' n', .int .i64 k', .int .i64 e'], true, 1⟩, none, some ⟨[.int .i64 g0, .int .i64 g1, .int .i64 g2, .int .i64 g3, .int .i64 g4, .int .i64 g5, .int .i64 g6, .int .i64 g7, .int .i64 g8, .int .i64 g9, .int .i64 g10, .string dt], true, 1⟩, some ⟨List.map (Value.int .u8) Z', true, 1⟩] := by
  have hge : decide (0 ≤ g2) = true := decide_eq_true hx.1
  have H := ac_flag true e e1 bs b1 Z Z1 n n1 k k1 hZ hn hk hst hZ1 hn1 hk1 hl
  have H2 := ac_puW 5 g2 e1 e' b1 bs' Z1 Z' n1 n' k1 k' hZ1 hn1 hk1 hZ' hn' hk' hl1 hst1 (by omega) (by omega) [.int .i64 g0, .int .i64 g1, .int .i64 g2, .int .i64 g3, .int .i64 g4, .int .i64 g5, .int .i64 g6, .int .i64 g7, .int .i64 g8, .int .i64 g9, .int .i64 g10, .string dt] 2 rfl
  clear hst hZ hZ' hn hn' hk hk' hst1 hZ1 hn1 hk1
  refine acalls_of_aw Tryz.func89 rfl rfl ?_
  repeat' first | refine st (h := ok_geqD rfl rfl hge) ?_ | refine st ?_ | refine stMW [0, 1] H ?_ | refine stMW [0, 4, 2] H2 ?_ | refine stm ?_ | refine run_nil ?_ | refine Jz ?_ | refine Jw ?_ | refine Jq ?_
  all_goals first | exact pm_normal _ (renumD [0, 1, 2, 5]) rfl
set_option maxHeartbeats 8000000 in
theorem ac_paW (x : Int) (e e' : Int) (bs bs' Z Z' : List Int) (n n' : Nat) (k k' : Int) (hZ : pack bs = Z) (hn : n = Z.length) (hk : k = bs.length) (hZ' : pack bs' = Z') (hn' : n' = Z'.length) (hk' : k' = bs'.length) (hl : bs.length ≤ 524288) (hst : sgnW bs e 16 x = (bs', e')) (hx : -9223372036854775808 ≤ x ∧ x ≤ 9223372036854775807) (F : List Value) (hF : F[7]? = some (.int .i64 x)) : ACalls Tryz.prog 85 [.agg #[.pointer (some ⟨0, 0, none⟩), .pointer none], .pointer (some ⟨2, 0, none⟩)] [some ⟨[.slice (some ⟨1, 0, none⟩) n n, .int .i64 k, .int .i64 e], true, 1⟩, some ⟨List.map (Value.int .u8) Z, true, 1⟩, some ⟨F, false, 1⟩] (.tuple #[]) [some ⟨[.slice (some ⟨3, 0, none⟩) n' n', .int .i64 k', .int .i64 e'], true, 1⟩, none, none, some ⟨List.map (Value.int .u8) Z', true, 1⟩] := by
  have H := ac_signed 16 x e e' bs bs' Z Z' n n' k k' hZ hn hk hst hZ' hn' hk' hl (by omega) hx
  clear hst hZ hZ' hn hn' hk hk'
  refine acalls_of_aw Tryz.func85 rfl rfl ?_
  repeat' first | refine Own.sol (v := .int .i64 x) (h := ok_load_at rfl rfl rfl hF) ?_ | refine st ?_ | refine Own.soMW [0, 1] H ?_ | refine stm ?_ | refine run_nil ?_ | refine Own.so ?_ | refine Own.sol ?_ | refine Own.runo_nil ?_ | refine Jz ?_ | refine Jw ?_ | refine aw_region_oC (id := 2) [0, 1, 0, 4, 12, 28, 63] 7 [[], [], [], [], [], [], [0, 1]] (by (repeat constructor)) (by kernel_rfl) (by kernel_rfl) (by kernel_rfl) (by rfl) (by rfl) ?_ | refine Jq ?_
  all_goals first | exact pm_normal _ (renumD [0, 1, 2, 4]) rfl
end Go.Proofs.YtdenooeaiicheaaGreat
