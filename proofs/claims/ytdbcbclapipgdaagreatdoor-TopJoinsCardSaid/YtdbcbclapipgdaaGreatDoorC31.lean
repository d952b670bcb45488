/- TopJoins: a request by bytes; TopJoins: joiners, a request as a whole. -/
import Derived.Test.YtdbcbclapipgdaaGreatDoorVO
import Derived.Test.YtdbcbclapipgdaaGreatDoorJ
import Derived.Test.YtdbcbclapipgdaaGreatDoorC20
import Derived.Test.YtdbcbclapipgdaaGreatDoorC27
set_option linter.unusedVariables false
set_option linter.unusedSimpArgs false
namespace Go.Proofs.YtdbcbclapipgdaaGreatDoor
open Go Av
set_option maxRecDepth 20000
set_option maxHeartbeats 16000000 in
theorem tx_l (nm sec : ByteArray) (no tr si sl : Int) (L : List Mb) (n : Nat) (v : Int) (L2 : List Mb) (d : Int) (C1 C2 S U : ByteArray) (a1 a4 a2 : Int) (h1 : bitv .and .u8 v 1 = a1) (h4 : bitv .and .u8 v 4 = a4) (h2 : bitv .and .u8 v 2 = a2) (HR : ACalls Tryz.prog 14 [.agg #[.string nm, .string sec, .int .i64 1, .int .i64 0, .int .i64 1, .int .i64 (-1), .int .i64 no, .int .i64 tr, .int .i64 si], .int .i64 sl] [] (.tuple #[.agg #[.string nm, .string sec, .int .i64 2, .int .i64 0, .int .i64 1, .int .i64 (-1), .int .i64 (no + 1), .int .i64 (tr + 1), .int .i64 sl], .agg #[.string nm, .int .i64 (no + 1), .string C1], .int .i64 0]) []) (HE : ACalls Tryz.prog 41 [.agg #[.string nm, .int .i64 (no + 1), .string C1]] [] (.tuple #[.string S, .int .i64 0]) []) (HD : ACalls Tryz.prog 45 [.string S] [] (.tuple #[.agg #[.string nm, .int .i64 (no + 1), .string C1], .int .i64 0]) []) (hf : ¬ a1 = 0) : ACalls Tryz.prog 53 [.agg #[.string nm, .string sec, .int .i64 1, .int .i64 0, .int .i64 1, .int .i64 (-1), .int .i64 no, .int .i64 tr, .int .i64 si], .slice (some ⟨0, 0, none⟩) n n, .int .i64 sl, .int .u8 v] [some ⟨L.flatMap mbC, false, 4⟩] (.tuple #[.agg #[.string nm, .string sec, .int .i64 2, .int .i64 0, .int .i64 1, .int .i64 (-1), .int .i64 (no + 1), .int .i64 (tr + 1), .int .i64 sl], .slice (some ⟨0, 0, none⟩) n n, .bool true]) [none] := by
  refine acalls_of_aw Tryz.func53 rfl rfl ?_
  repeat' first | refine st (h := ok_andK rfl rfl h1) ?_ | refine st ?_ | refine st_call (HR) ?_ | refine st_call (HE) ?_ | refine st_call (HD) ?_ | refine stm ?_ | refine Ja ?_ | refine run_nil ?_ | refine Jz ?_ | refine Jw ?_ | refine Jr ?_ | refine Js ?_ | refine Jy ?_ | refine aw_ret ?_
  all_goals first | exact pm_ret _ (renumD [0]) rfl
set_option maxHeartbeats 16000000 in
theorem tx_a0 (nm sec : ByteArray) (no tr si sl : Int) (L : List Mb) (n : Nat) (v : Int) (L2 : List Mb) (d : Int) (C1 C2 S U : ByteArray) (a1 a4 a2 : Int) (h1 : bitv .and .u8 v 1 = a1) (h4 : bitv .and .u8 v 4 = a4) (h2 : bitv .and .u8 v 2 = a2) (HR : ACalls Tryz.prog 14 [.agg #[.string nm, .string sec, .int .i64 1, .int .i64 0, .int .i64 1, .int .i64 (-1), .int .i64 no, .int .i64 tr, .int .i64 si], .int .i64 sl] [] (.tuple #[.agg #[.string nm, .string sec, .int .i64 2, .int .i64 0, .int .i64 1, .int .i64 (-1), .int .i64 (no + 1), .int .i64 (tr + 1), .int .i64 sl], .agg #[.string nm, .int .i64 (no + 1), .string C1], .int .i64 0]) []) (HE : ACalls Tryz.prog 41 [.agg #[.string nm, .int .i64 (no + 1), .string C1]] [] (.tuple #[.string S, .int .i64 0]) []) (HD : ACalls Tryz.prog 45 [.string S] [] (.tuple #[.agg #[.string nm, .int .i64 (no + 1), .string C1], .int .i64 0]) []) (hf : a1 = 0) (hg : a4 = 0) (hh : ¬ a2 = 0) (HA : ACalls Tryz.prog 19 [.slice (some ⟨0, 0, none⟩) n n, .agg #[.string nm, .int .i64 (no + 1), .string C1]] [some ⟨L.flatMap mbC, false, 4⟩] (.tuple #[.slice (some ⟨1, 0, none⟩) n n, .agg #[.string nm, .int .i64 (no + 1), .int .i64 d, .string C2], .int .i64 0]) [none, some ⟨L2.flatMap mbC, true, 4⟩]) : ACalls Tryz.prog 53 [.agg #[.string nm, .string sec, .int .i64 1, .int .i64 0, .int .i64 1, .int .i64 (-1), .int .i64 no, .int .i64 tr, .int .i64 si], .slice (some ⟨0, 0, none⟩) n n, .int .i64 sl, .int .u8 v] [some ⟨L.flatMap mbC, false, 4⟩] (.tuple #[.agg #[.string nm, .string sec, .int .i64 2, .int .i64 0, .int .i64 1, .int .i64 (-1), .int .i64 (no + 1), .int .i64 (tr + 1), .int .i64 sl], .slice (some ⟨1, 0, none⟩) n n, .bool true]) [none, some ⟨L2.flatMap mbC, true, 4⟩] := by
  refine acalls_of_aw Tryz.func53 rfl rfl ?_
  repeat' first | refine st (h := ok_andK rfl rfl h1) ?_ | refine st (h := ok_andK rfl rfl h4) ?_ | refine st (h := ok_andK rfl rfl h2) ?_ | refine st ?_ | refine st_call (HR) ?_ | refine st_call (HE) ?_ | refine st_call (HD) ?_ | refine stMW [0] HA ?_ | refine stm ?_ | refine Ja ?_ | refine run_nil ?_ | refine Jz ?_ | refine Jw ?_ | refine Jr ?_ | refine Js ?_ | refine Jt ?_ | refine Jy ?_ | refine aw_ret ?_
  all_goals first | exact pm_ret _ (renumD [0, 5]) rfl
set_option maxHeartbeats 16000000 in
theorem tx_a4 (nm sec : ByteArray) (no tr si sl : Int) (L : List Mb) (n : Nat) (v : Int) (L2 : List Mb) (d : Int) (C1 C2 S U : ByteArray) (a1 a4 a2 : Int) (h1 : bitv .and .u8 v 1 = a1) (h4 : bitv .and .u8 v 4 = a4) (h2 : bitv .and .u8 v 2 = a2) (HR : ACalls Tryz.prog 14 [.agg #[.string nm, .string sec, .int .i64 1, .int .i64 0, .int .i64 1, .int .i64 (-1), .int .i64 no, .int .i64 tr, .int .i64 si], .int .i64 sl] [] (.tuple #[.agg #[.string nm, .string sec, .int .i64 2, .int .i64 0, .int .i64 1, .int .i64 (-1), .int .i64 (no + 1), .int .i64 (tr + 1), .int .i64 sl], .agg #[.string nm, .int .i64 (no + 1), .string C1], .int .i64 0]) []) (HE : ACalls Tryz.prog 41 [.agg #[.string nm, .int .i64 (no + 1), .string C1]] [] (.tuple #[.string S, .int .i64 0]) []) (HD : ACalls Tryz.prog 45 [.string S] [] (.tuple #[.agg #[.string nm, .int .i64 (no + 1), .string C1], .int .i64 0]) []) (hf : a1 = 0) (hg : ¬ a4 = 0) (hh : ¬ a2 = 0) (HA : ACalls Tryz.prog 19 [.slice (some ⟨0, 0, none⟩) n n, .agg #[.string nm, .int .i64 (no + 1), .string C1]] [some ⟨L.flatMap mbC, false, 4⟩] (.tuple #[.slice (some ⟨1, 0, none⟩) n n, .agg #[.string nm, .int .i64 (no + 1), .int .i64 d, .string C2], .int .i64 0]) [none, some ⟨L2.flatMap mbC, true, 4⟩])(HB : ACalls Tryz.prog 19 [.slice (some ⟨0, 0, none⟩) n n, .agg #[.string nm, .int .i64 (no + 1), .string C1]] [some ⟨L2.flatMap mbC, false, 4⟩] (.tuple #[.slice (some ⟨1, 0, none⟩) n n, .agg #[.string nm, .int .i64 (no + 1), .int .i64 d, .string C2], .int .i64 0]) [none, some ⟨L2.flatMap mbC, true, 4⟩]) (HS : ACalls Tryz.prog 23 [.slice (some ⟨0, 0, none⟩) n n, .slice (some ⟨1, 0, none⟩) n n] [some ⟨L2.flatMap mbC, false, 4⟩, some ⟨L2.flatMap mbC, false, 4⟩] (.bool true) [none, none]) : ACalls Tryz.prog 53 [.agg #[.string nm, .string sec, .int .i64 1, .int .i64 0, .int .i64 1, .int .i64 (-1), .int .i64 no, .int .i64 tr, .int .i64 si], .slice (some ⟨0, 0, none⟩) n n, .int .i64 sl, .int .u8 v] [some ⟨L.flatMap mbC, false, 4⟩] (.tuple #[.agg #[.string nm, .string sec, .int .i64 2, .int .i64 0, .int .i64 1, .int .i64 (-1), .int .i64 (no + 1), .int .i64 (tr + 1), .int .i64 sl], .slice (some ⟨1, 0, none⟩) n n, .bool true]) [none, some ⟨L2.flatMap mbC, true, 4⟩] := by
  refine acalls_of_aw Tryz.func53 rfl rfl ?_
  repeat' first | intro h1 | intro h1 | refine st (h := ok_andK rfl rfl h1) ?_ | refine st (h := ok_andK rfl rfl h4) ?_ | refine st (h := ok_andK rfl rfl h2) ?_ | refine st ?_ | refine st_call (HR) ?_ | refine st_call (HE) ?_ | refine st_call (HD) ?_ | refine stMW [0] HA ?_ | refine stMW [5] HB ?_ | refine stRW [7, 5] HS ?_ | refine stm ?_ | refine Ja ?_ | refine Jb ?_ | refine Ji ?_ ?_ | refine run_nil ?_ | refine Jz ?_ | refine Jw ?_ | refine Jq ?_ | refine Jr ?_ | refine Js ?_ | refine Jt ?_ | refine Jy ?_ | refine aw_ret ?_
  all_goals first | exact pm_ret _ (renumD [0, 5]) rfl | (exfalso; exact h1 ⟨rfl, rfl, rfl, rfl, trivial⟩)
set_option maxHeartbeats 16000000 in
theorem tx_t0 (nm sec : ByteArray) (no tr si sl : Int) (L : List Mb) (n : Nat) (v : Int) (L2 : List Mb) (d : Int) (C1 C2 S U : ByteArray) (a1 a4 a2 : Int) (h1 : bitv .and .u8 v 1 = a1) (h4 : bitv .and .u8 v 4 = a4) (h2 : bitv .and .u8 v 2 = a2) (HR : ACalls Tryz.prog 14 [.agg #[.string nm, .string sec, .int .i64 1, .int .i64 0, .int .i64 1, .int .i64 (-1), .int .i64 no, .int .i64 tr, .int .i64 si], .int .i64 sl] [] (.tuple #[.agg #[.string nm, .string sec, .int .i64 2, .int .i64 0, .int .i64 1, .int .i64 (-1), .int .i64 (no + 1), .int .i64 (tr + 1), .int .i64 sl], .agg #[.string nm, .int .i64 (no + 1), .string C1], .int .i64 0]) []) (HE : ACalls Tryz.prog 41 [.agg #[.string nm, .int .i64 (no + 1), .string C1]] [] (.tuple #[.string S, .int .i64 0]) []) (HD : ACalls Tryz.prog 45 [.string S] [] (.tuple #[.agg #[.string nm, .int .i64 (no + 1), .string C1], .int .i64 0]) []) (hf : a1 = 0) (hg : a4 = 0) (hh : a2 = 0) (HA : ACalls Tryz.prog 19 [.slice (some ⟨0, 0, none⟩) n n, .agg #[.string nm, .int .i64 (no + 1), .string C1]] [some ⟨L.flatMap mbC, false, 4⟩] (.tuple #[.slice (some ⟨1, 0, none⟩) n n, .agg #[.string nm, .int .i64 (no + 1), .int .i64 d, .string C2], .int .i64 0]) [none, some ⟨L2.flatMap mbC, true, 4⟩])(HT : ACalls Tryz.prog 43 [.agg #[.string nm, .int .i64 (no + 1), .int .i64 d, .string C2]] [] (.tuple #[.string U, .int .i64 0]) []) (HX : ACalls Tryz.prog 47 [.string U] [] (.tuple #[.agg #[.string nm, .int .i64 (no + 1), .int .i64 d, .string C2], .int .i64 0]) []) (HU : ACalls Tryz.prog 16 [.agg #[.string nm, .string sec, .int .i64 2, .int .i64 0, .int .i64 1, .int .i64 (-1), .int .i64 (no + 1), .int .i64 (tr + 1), .int .i64 sl], .agg #[.string nm, .int .i64 (no + 1), .int .i64 d, .string C2]] [] (.tuple #[.agg #[.string nm, .string sec, .int .i64 3, .int .i64 0, .int .i64 1, .int .i64 d, .int .i64 (no + 1), .int .i64 (tr + 1), .int .i64 sl], .int .i64 0]) []) : ACalls Tryz.prog 53 [.agg #[.string nm, .string sec, .int .i64 1, .int .i64 0, .int .i64 1, .int .i64 (-1), .int .i64 no, .int .i64 tr, .int .i64 si], .slice (some ⟨0, 0, none⟩) n n, .int .i64 sl, .int .u8 v] [some ⟨L.flatMap mbC, false, 4⟩] (.tuple #[.agg #[.string nm, .string sec, .int .i64 3, .int .i64 0, .int .i64 1, .int .i64 d, .int .i64 (no + 1), .int .i64 (tr + 1), .int .i64 sl], .slice (some ⟨1, 0, none⟩) n n, .bool true]) [none, some ⟨L2.flatMap mbC, true, 4⟩] := by
  refine acalls_of_aw Tryz.func53 rfl rfl ?_
  repeat' first | refine st (h := ok_andK rfl rfl h1) ?_ | refine st (h := ok_andK rfl rfl h4) ?_ | refine st (h := ok_andK rfl rfl h2) ?_ | refine st ?_ | refine st_call (HR) ?_ | refine st_call (HE) ?_ | refine st_call (HD) ?_ | refine st_call (HT) ?_ | refine st_call (HX) ?_ | refine st_call (HU) ?_ | refine stMW [0] HA ?_ | refine stm ?_ | refine Ja ?_ | refine run_nil ?_ | refine Jz ?_ | refine Jw ?_ | refine Jr ?_ | refine Jt ?_ | refine Jy ?_ | refine aw_ret ?_
  all_goals first | exact pm_ret _ (renumD [0, 5]) rfl
set_option maxHeartbeats 16000000 in
theorem tx_t4 (nm sec : ByteArray) (no tr si sl : Int) (L : List Mb) (n : Nat) (v : Int) (L2 : List Mb) (d : Int) (C1 C2 S U : ByteArray) (a1 a4 a2 : Int) (h1 : bitv .and .u8 v 1 = a1) (h4 : bitv .and .u8 v 4 = a4) (h2 : bitv .and .u8 v 2 = a2) (HR : ACalls Tryz.prog 14 [.agg #[.string nm, .string sec, .int .i64 1, .int .i64 0, .int .i64 1, .int .i64 (-1), .int .i64 no, .int .i64 tr, .int .i64 si], .int .i64 sl] [] (.tuple #[.agg #[.string nm, .string sec, .int .i64 2, .int .i64 0, .int .i64 1, .int .i64 (-1), .int .i64 (no + 1), .int .i64 (tr + 1), .int .i64 sl], .agg #[.string nm, .int .i64 (no + 1), .string C1], .int .i64 0]) []) (HE : ACalls Tryz.prog 41 [.agg #[.string nm, .int .i64 (no + 1), .string C1]] [] (.tuple #[.string S, .int .i64 0]) []) (HD : ACalls Tryz.prog 45 [.string S] [] (.tuple #[.agg #[.string nm, .int .i64 (no + 1), .string C1], .int .i64 0]) []) (hf : a1 = 0) (hg : ¬ a4 = 0) (hh : a2 = 0) (HA : ACalls Tryz.prog 19 [.slice (some ⟨0, 0, none⟩) n n, .agg #[.string nm, .int .i64 (no + 1), .string C1]] [some ⟨L.flatMap mbC, false, 4⟩] (.tuple #[.slice (some ⟨1, 0, none⟩) n n, .agg #[.string nm, .int .i64 (no + 1), .int .i64 d, .string C2], .int .i64 0]) [none, some ⟨L2.flatMap mbC, true, 4⟩])(HB : ACalls Tryz.prog 19 [.slice (some ⟨0, 0, none⟩) n n, .agg #[.string nm, .int .i64 (no + 1), .string C1]] [some ⟨L2.flatMap mbC, false, 4⟩] (.tuple #[.slice (some ⟨1, 0, none⟩) n n, .agg #[.string nm, .int .i64 (no + 1), .int .i64 d, .string C2], .int .i64 0]) [none, some ⟨L2.flatMap mbC, true, 4⟩]) (HS : ACalls Tryz.prog 23 [.slice (some ⟨0, 0, none⟩) n n, .slice (some ⟨1, 0, none⟩) n n] [some ⟨L2.flatMap mbC, false, 4⟩, some ⟨L2.flatMap mbC, false, 4⟩] (.bool true) [none, none])(HT : ACalls Tryz.prog 43 [.agg #[.string nm, .int .i64 (no + 1), .int .i64 d, .string C2]] [] (.tuple #[.string U, .int .i64 0]) []) (HX : ACalls Tryz.prog 47 [.string U] [] (.tuple #[.agg #[.string nm, .int .i64 (no + 1), .int .i64 d, .string C2], .int .i64 0]) []) (HU : ACalls Tryz.prog 16 [.agg #[.string nm, .string sec, .int .i64 2, .int .i64 0, .int .i64 1, .int .i64 (-1), .int .i64 (no + 1), .int .i64 (tr + 1), .int .i64 sl], .agg #[.string nm, .int .i64 (no + 1), .int .i64 d, .string C2]] [] (.tuple #[.agg #[.string nm, .string sec, .int .i64 3, .int .i64 0, .int .i64 1, .int .i64 d, .int .i64 (no + 1), .int .i64 (tr + 1), .int .i64 sl], .int .i64 0]) []) : ACalls Tryz.prog 53 [.agg #[.string nm, .string sec, .int .i64 1, .int .i64 0, .int .i64 1, .int .i64 (-1), .int .i64 no, .int .i64 tr, .int .i64 si], .slice (some ⟨0, 0, none⟩) n n, .int .i64 sl, .int .u8 v] [some ⟨L.flatMap mbC, false, 4⟩] (.tuple #[.agg #[.string nm, .string sec, .int .i64 3, .int .i64 0, .int .i64 1, .int .i64 d, .int .i64 (no + 1), .int .i64 (tr + 1), .int .i64 sl], .slice (some ⟨1, 0, none⟩) n n, .bool true]) [none, some ⟨L2.flatMap mbC, true, 4⟩] := by
  refine acalls_of_aw Tryz.func53 rfl rfl ?_
  repeat' first | intro h1 | intro h1 | refine st (h := ok_andK rfl rfl h1) ?_ | refine st (h := ok_andK rfl rfl h4) ?_ | refine st (h := ok_andK rfl rfl h2) ?_ | refine st ?_ | refine st_call (HR) ?_ | refine st_call (HE) ?_ | refine st_call (HD) ?_ | refine st_call (HT) ?_ | refine st_call (HX) ?_ | refine st_call (HU) ?_ | refine stMW [0] HA ?_ | refine stMW [5] HB ?_ | refine stRW [7, 5] HS ?_ | refine stm ?_ | refine Ja ?_ | refine Jb ?_ | refine Ji ?_ ?_ | refine run_nil ?_ | refine Jz ?_ | refine Jw ?_ | refine Jq ?_ | refine Jr ?_ | refine Js ?_ | refine Jt ?_ | refine Jy ?_ | refine aw_ret ?_
  all_goals first | exact pm_ret _ (renumD [0, 5]) rfl | (exfalso; exact h1 ⟨rfl, rfl, rfl, rfl, trivial⟩)
/-- Joiners. -/
structure Jnr where
  nm : ByteArray
  sec : ByteArray
  sj : Int
  pa : Int
  ep : Int
  nd : Int
  no : Int
  tr : Int
  si : Int
def jrC (j : Jnr) : List Value := [.string j.nm, .string j.sec, .int .i64 j.sj, .int .i64 j.pa, .int .i64 j.ep, .int .i64 j.nd, .int .i64 j.no, .int .i64 j.tr, .int .i64 j.si]
instance : RenF jrC := ⟨fun _ _ => rfl⟩
structure Kt where
  i : Nat
theorem ok_eqlJ {P : Program} {ρ : Operand → Option Value} {m : Mem} {d : Option Tmp} {t : TypeId} {pp : String} {af : Array Edge} {g : Option (Nat × Bool)} {xt yt : TypeId} {x y : Operand} {k : IntKind} {a b : Int} {c : Bool} (hx : ρ x = some (.int k a)) (hy : ρ y = some (.int k b)) (h : decide (a = b) = c) : OpOK P ⟨d, .binOp .eql xt x y yt, t, pp, af, g⟩ ρ m (.bool c) m := ok_eqlD hx hy h
theorem ac_tj1 (dn1 ds1 : ByteArray) (e1 e2 e3 dn e4 e5 e6 : Int) (nm sec : ByteArray) (sj pa ep nd no tr si : Int) (h : ¬ (sj = 3 ∧ nd = dn)) : ACalls Tryz.prog 55 [.agg #[.string nm, .string sec, .int .i64 sj, .int .i64 pa, .int .i64 ep, .int .i64 nd, .int .i64 no, .int .i64 tr, .int .i64 si], .pointer (some ⟨0, 0, none⟩)] [some ⟨[.string dn1, .string ds1, .int .i64 e1, .int .i64 e2, .int .i64 e3, .int .i64 dn, .int .i64 e4, .int .i64 e5, .int .i64 e6], false, 1⟩] (.bool false) [none] := by
  by_cases h3 : sj = 3
  · have h4 : decide (nd = dn) = false := decide_eq_false fun e => h ⟨h3, e⟩
    have h3 := decide_eq_true h3
    clear h
    refine acalls_law Tryz.func55 rfl rfl rfl ?_
    repeat' first | refine st (h := ok_eqlJ rfl rfl h3) ?_ | refine st (h := ok_eqlJ rfl rfl h4) ?_ | refine st ?_ | refine stm ?_ | refine Ja ?_ | refine run_nil ?_ | refine Jz ?_ | refine Jw ?_ | refine aw_ret ?_ | refine pp_ret ?_
    all_goals first | rfl
  · have h3 := decide_eq_false h3
    clear h
    refine acalls_law Tryz.func55 rfl rfl rfl ?_
    repeat' first | refine st (h := ok_eqlJ rfl rfl h3) ?_ | refine st ?_ | refine stm ?_ | refine Jb ?_ | refine run_nil ?_ | refine Jz ?_ | refine Jw ?_ | refine aw_ret ?_ | refine pp_ret ?_
    all_goals first | rfl
set_option maxHeartbeats 4000000 in
theorem ac_tj2 (Q : List Jnr) (n c : Nat) (hn : n ≤ Q.length) (hb : n ≤ 1000000) (dn1 ds1 : ByteArray) (e1 e2 e3 dn e4 e5 e6 : Int) (hno : ∀ (k : Nat) (j : Jnr), k < n → Q[k]? = some j → ¬ (j.sj = 3 ∧ j.nd = dn)) : ACalls Tryz.prog 101 [.slice (some ⟨0, 0, none⟩) n c, .func (.func 55) #[] #[.pointer (some ⟨1, 0, none⟩)]] [some ⟨Q.flatMap jrC, false, 9⟩, some ⟨[.string dn1, .string ds1, .int .i64 e1, .int .i64 e2, .int .i64 e3, .int .i64 dn, .int .i64 e4, .int .i64 e5, .int .i64 e6], false, 1⟩] (.int .i64 (-1)) [none, none] := by
  refine acalls_law Tryz.func101 rfl rfl rfl ?_
  repeat' first | refine st ?_ | refine run_nil ?_ | refine Jz ?_ | refine Jw ?_ | refine aw_block ?_
  refine aw_loopg
    (S := fun y : Kt => [(0, .slice (some ⟨0, 0, none⟩) n c), (1, .func (.func 55) #[] #[.pointer (some ⟨1, 0, none⟩)]), (6, .slice (some ⟨0, 0, none⟩) n c), (7, .int .i64 n), (8, .int .i64 y.i)])
    (B := fun _ : Kt => [some ⟨Q.flatMap jrC, false, 9⟩, some ⟨[.string dn1, .string ds1, .int .i64 e1, .int .i64 e2, .int .i64 e3, .int .i64 dn, .int .i64 e4, .int .i64 e5, .int .i64 e6], false, 1⟩])
    (R := fun y : Kt => y.i ≤ n)
    (μ := fun y : Kt => n - y.i) ⟨0⟩ (fitsD [0, 1]) (Nat.zero_le _) ?_
  rintro ⟨i⟩ g1
  dsimp only at g1 ⊢
  by_cases hi : i < n
  · obtain ⟨⟨nm, sec, sj, pa, ep, nd, no, tr, si⟩, hq⟩ : ∃ m, Q[i]? = some m := ⟨_, List.getElem?_eq_getElem (by omega)⟩
    have H := ac_tj1 dn1 ds1 e1 e2 e3 dn e4 e5 e6 nm sec sj pa ep nd no tr si (hno i _ hi hq)
    clear hno
    repeat' first | refine st (h := ok_load_rowsE (f := jrC) (cs := [.string nm, .string sec, .int .i64 sj, .int .i64 pa, .int .i64 ep, .int .i64 nd, .int .i64 no, .int .i64 tr, .int .i64 si]) i (fun _ => rfl) hq rfl rfl rfl rfl (by omega)) ?_ | refine st ?_ | refine stRW [1] H ?_ | refine run_nil ?_ | refine Jz ?_ | refine Jw ?_ | refine aw_block ?_ | refine Jr ?_ | refine Js ?_ | refine Jy ?_
    all_goals first | exact Exists.intro ⟨i + 1⟩ ⟨fitsD [0, 1], hi, by dsimp only; omega⟩
  · obtain rfl : i = n := by omega
    clear hno
    repeat' first | refine st ?_ | refine run_nil ?_ | refine Jz ?_ | refine Jw ?_ | refine Jt ?_ | refine aw_exit ?_ | refine aw_ret ?_ | refine pp_ret ?_
    all_goals first | rfl
set_option maxHeartbeats 4000000 in
theorem ac_tj3 (Q : List Jnr) (n c : Nat) (hn : n ≤ Q.length) (hb : n ≤ 1000000) (dn1 ds1 : ByteArray) (e1 e2 e3 dn e4 e5 e6 : Int) (hno : ∀ (k : Nat) (j : Jnr), k < n → Q[k]? = some j → ¬ (j.sj = 3 ∧ j.nd = dn)) : ACalls Tryz.prog 54 [.slice (some ⟨0, 0, none⟩) n c, .func (.func 55) #[] #[.pointer (some ⟨1, 0, none⟩)]] [some ⟨Q.flatMap jrC, false, 9⟩, some ⟨[.string dn1, .string ds1, .int .i64 e1, .int .i64 e2, .int .i64 e3, .int .i64 dn, .int .i64 e4, .int .i64 e5, .int .i64 e6], false, 1⟩] (.bool false) [none, none] := by
  have H := ac_tj2 Q n c hn hb dn1 ds1 e1 e2 e3 dn e4 e5 e6 hno
  clear hno
  refine acalls_law Tryz.func54 rfl rfl rfl ?_
  repeat' first | refine st ?_ | refine stRW [0, 1] H ?_ | refine run_nil ?_ | refine Jz ?_ | refine Jw ?_ | refine aw_ret ?_ | refine pp_ret ?_
  all_goals first | rfl
theorem tj_chR {nm sec : ByteArray} (hn : nmB nm = true) (hs : scB sec = true) (no tr si : Int) (h : 0 ≤ no ∧ no ≤ 1000) (ht : 0 ≤ tr ∧ tr ≤ 3) (hi : 0 ≤ si ∧ si ≤ 1000) : chJ nm sec 1 0 1 (-1) no tr si = true := by
  unfold chJ stB
  rw [hn, hs, if_neg (by omega), if_pos rfl, decide_eq_true (by omega), decide_eq_true (by omega)]
  rfl
theorem tj_chS {nm sec : ByteArray} (hn : nmB nm = true) (hs : scB sec = true) (no : Int) (h : 0 ≤ no ∧ no ≤ 1000) : chJ nm sec 0 (-1) 0 (-1) no 0 0 = true := by
  unfold chJ stB
  rw [hn, hs, if_pos rfl, decide_eq_true (by omega), decide_eq_true (by omega)]
  rfl
theorem tj_chA {nm sec : ByteArray} (hn : nmB nm = true) (hs : scB sec = true) (no tr si : Int) (h : 1 ≤ no ∧ no ≤ 1000) (ht : 1 ≤ tr ∧ tr ≤ 4) (hi : 0 ≤ si ∧ si ≤ 1000) : chJ nm sec 2 0 1 (-1) no tr si = true := by
  unfold chJ stB
  rw [hn, hs, if_neg (by omega), if_neg (by omega), if_pos rfl, decide_eq_true (by omega), decide_eq_true (by omega)]
  rfl
end Go.Proofs.YtdbcbclapipgdaaGreatDoor
