/- The example: fragments. The example: what is heard. The example. -/
import Derived.Test.YtdenooeaiicheaaGreatVL
import Derived.Test.YtdenooeaiicheaaGreatJ
import Derived.Test.YtdenooeaiicheaaGreatH2
import Derived.Test.YtdenooeaiicheaaGreatT7
import Derived.Test.YtdenooeaiicheaaGreatZ3
import Derived.Test.YtdenooeaiicheaaGreatVW
import Derived.Test.YtdenooeaiicheaaGreatR2
import Derived.Test.YtdenooeaiicheaaGreatQ2
set_option linter.unusedVariables false
set_option linter.unusedSimpArgs false
namespace Go.Proofs.YtdenooeaiicheaaGreat
open Go Av
set_option maxRecDepth 20000
/-- The fragments of the example, so far. -/
def spR : Nat → List Value
  | 0 => []
  | 1 => [.int .i64 1, .int .i64 0, .int .i64 2, .int .i64 3, .string (ByteArray.extract ⟨#[97, 98, 99]⟩ 0 2)]
  | _ => [.int .i64 1, .int .i64 0, .int .i64 2, .int .i64 3, .string (ByteArray.extract ⟨#[97, 98, 99]⟩ 0 2), .int .i64 1, .int .i64 1, .int .i64 2, .int .i64 3, .string (ByteArray.extract ⟨#[97, 98, 99]⟩ 2 3)]
set_option maxHeartbeats 8000000 in
theorem x_split : ACalls Tryz.prog 18 [.int .i64 1, .string ⟨#[97, 98, 99]⟩, .int .i64 2] [] (.tuple #[.slice (some ⟨0, 0, none⟩) 2 2, .int .i64 0]) [some ⟨spR 2, true, 5⟩] := by
  refine acalls_of_aw Tryz.func18 rfl rfl ?_
  refine aw_ghost 5 rfl ?_
  repeat' first | refine st (h := ok_quoD (q := 2) rfl rfl (by decide) (by decide) (by decide)) ?_ | refine st ?_ | refine Ja ?_ | refine run_nil ?_ | refine Jz ?_ | refine Jw ?_ | refine aw_block ?_ | refine Jr ?_ | refine Jy ?_
  refine aw_loopg
    (S := fun y : Og => [(0, .int .i64 1), (1, .string ⟨#[97, 98, 99]⟩), (2, .int .i64 2), (8, .int .i64 2), (9, .slice (some ⟨0, 0, none⟩) y.i y.i), (43, .int .i64 2), (44, .int .i64 y.i)])
    (B := fun y : Og => [some ⟨spR y.i, true, 5⟩])
    (R := fun y : Og => y.i ≤ 2) (μ := fun y : Og => 2 - y.i) ⟨0⟩ (fitsD [0]) (Nat.zero_le _) ?_
  rintro ⟨i⟩ g1
  dsimp only at *
  have : i = 0 ∨ i = 1 ∨ i = 2 := by omega
  rcases this with rfl | rfl | rfl
  · skip
    repeat' first | refine stm (h := by (apply ok_append (cs := spR 1) (olds := spR 0); rfl; rfl; rfl; rfl; rfl; rfl; (focus (apply Src.slc; rfl; exact Ty.eq; rfl; exact Nat.le_of_ble_eq_true rfl; exact TakeR.eq (by ((repeat constructor); first | done | fail)); rfl; rfl)); (focus exact Nat.le_of_ble_eq_true rfl); rfl; rfl; decide; (focus ((repeat constructor); first | done | fail)))) ?_ | refine st ?_ | refine stm ?_ | refine run_nil ?_ | refine Jz ?_ | refine Jw ?_ | refine aw_block ?_ | refine Jq ?_ | refine Jy ?_
    all_goals first | exact Exists.intro ⟨1⟩ ⟨fitsD [2], by decide, by decide⟩
  · have hs : (ByteArray.size ⟨#[97, 98, 99]⟩) = 3 := rfl
    repeat' first | refine stm (h := by (apply ok_append (cs := spR 2) (olds := spR 1); rfl; rfl; rfl; rfl; rfl; rfl; (focus (apply Src.slc; rfl; exact Ty.eq; rfl; exact Nat.le_of_ble_eq_true rfl; exact TakeR.eq (by ((repeat constructor); first | done | fail)); rfl; rfl)); (focus exact Nat.le_of_ble_eq_true rfl); rfl; rfl; decide; (focus ((repeat constructor); first | done | fail)))) ?_ | refine st ?_ | refine stm ?_ | refine run_nil ?_ | refine Jz ?_ | refine Jw ?_ | refine aw_block ?_ | refine Jq ?_ | refine Jy ?_
    all_goals first | exact Exists.intro ⟨2⟩ ⟨fitsD [2], by decide, by decide⟩
  · skip
    repeat' first | refine st ?_ | refine run_nil ?_ | refine Jz ?_ | refine Jw ?_ | refine Jr ?_ | refine aw_exit ?_ | refine aw_ret ?_
    all_goals exact pm_ret _ (renumD [0]) rfl
end Go.Proofs.YtdenooeaiicheaaGreat
namespace Go.Proofs.YtdenooeaiicheaaGreat
open Go Av
set_option maxRecDepth 20000
def fnd : Nat → Bool
  | 0 => false
  | _ => true
set_option maxHeartbeats 16000000 in
theorem ac_Hear1 (N : List P2) (Pw : List Int) (L : List Wl) (n p w : Nat) (hn : N.length = n) (hp : Pw.length = p) (hw : L.length = w) (hb : n ≤ 1000000 ∧ p ≤ 1000000 ∧ w ≤ 1000000) (ex no th : Int) (S : List Sr) (F : List Fd) (ns nf : Nat) (hns : S.length = ns) (hnf : F.length = nf) (hS : S.length ≤ 8) (hbf : nf ≤ 1000000) (hch : chsL S) (E : List Em) (ne : Nat) (hne : E.length = ne) (hbe : ne ≤ 1000000) (hv : airE N Pw L ex no th S F E = 0) (h1 : ne = 1) (n0 c0 f0 t0 : Int) (hq0 : E[0]? = some ⟨n0, c0, f0, t0⟩) (nd : Nat) (hnd : nd < n) (fa ta : Int) (hc : 0 ≤ c0 ∧ c0 < 16) (hfa : 0 ≤ fa ∧ fa ≤ f0 ∧ f0 ≤ ta ∧ ta ≤ 1099511627776) (hr : rcB ex no th N Pw L S F E 0 ⟨n0, c0, f0, t0⟩ nd = true) :
    ACalls Tryz.prog 17 [.agg #[.slice (some ⟨0, 0, none⟩) n n, .slice (some ⟨1, 0, none⟩) p p, .slice (some ⟨2, 0, none⟩) w w, .int .i64 ex, .int .i64 no, .int .i64 th], .agg #[.slice (some ⟨3, 0, none⟩) ns ns, .slice (some ⟨4, 0, none⟩) nf nf], .slice (some ⟨13, 0, none⟩) ne ne, .agg #[.int .i64 nd, .int .i64 c0, .int .i64 fa, .int .i64 ta]] [some ⟨N.flatMap ptC, false, 1⟩, some ⟨List.map (Value.int .i64) Pw, false, 1⟩, some ⟨L.flatMap wlC, false, 1⟩, some ⟨srcs S, false, 1⟩, some ⟨F.flatMap fdC, false, 1⟩, chB S 0, chB S 1, chB S 2, chB S 3, chB S 4, chB S 5, chB S 6, chB S 7, some ⟨E.flatMap emC, false, 4⟩] (.tuple #[.int .i64 0, .bool true, .int .i64 0]) [none, none, none, none, none, none, none, none, none, none, none, none, none, none] := by
  have H := ac_build N Pw L n p w hn hp hw hb ex no th S F ns nf hns hnf hS hbf hch E ne hne hbe hv
  obtain ⟨hok, hsp, h48, _⟩ := air_ok hv
  have hem := air_em hv
  rw [hn] at hem
  have H2 := ac_rec N Pw L n p w hn hp hw hb ex no th hok S F ns nf hns hnf hS hbf hch hsp E ne hne (by omega) hem 0 n0 c0 f0 t0 hq0 nd hnd true hr
  clear hv hem hr hok hsp
  refine acalls_law Tryz.func17 rfl rfl rfl ?_
  repeat' first | refine st ?_ | refine stMW [0, 1, 2, 3, 4, 5, 6, 7, 8, 9, 10, 11, 12, 13] H ?_ (hsub := by (repeat (first | exact SubM.nil | apply SubM.hole | (apply SubM.rw; rfl; (first | exact WkL.refl _ | exact WkL.ofEq (renL_map (fun _ => rfl) _).symm | exact WkL.ofEq (renL_flat _).symm | exact WkL.ofEq (ren_srcs hS (gOf_id rfl)).symm)) | (apply SubM.ro; rfl; (first | exact WkL.refl _ | exact WkL.ofEq (renL_map (fun _ => rfl) _).symm | exact WkL.ofEq (renL_flat _).symm | exact WkL.ofEq (ren_srcs hS (gOf_id rfl)).symm))))) | refine stm ?_ | refine Ja ?_ | refine Jf ?_ | refine run_nil ?_ | refine Jz ?_ | refine Jw ?_ | refine aw_block ?_ | refine Jr ?_ | refine Jt ?_ | refine Jy ?_
  refine aw_loopg
    (S := fun y : Og => [(2, .slice (some ⟨13, 0, none⟩) ne ne), (7, .pointer (some ⟨16, 0, none⟩)), (11, .pointer (some ⟨18, 0, none⟩)), (13, .int .i64 0), (14, .bool (fnd y.i)), (66, .slice (some ⟨13, 0, none⟩) ne ne), (67, .int .i64 ne), (68, .int .i64 y.i)])
    (B := fun y : Og => [some ⟨N.flatMap ptC, false, 1⟩, some ⟨List.map (Value.int .i64) Pw, false, 1⟩, some ⟨L.flatMap wlC, false, 1⟩, some ⟨srcs S, false, 1⟩, some ⟨F.flatMap fdC, false, 1⟩, chB S 0, chB S 1, chB S 2, chB S 3, chB S 4, chB S 5, chB S 6, chB S 7, some ⟨E.flatMap emC, false, 4⟩, some ⟨[.slice (some ⟨0, 0, none⟩) n n, .slice (some ⟨1, 0, none⟩) p p, .slice (some ⟨2, 0, none⟩) w w, .int .i64 ex, .int .i64 no, .int .i64 th], true, 1⟩, some ⟨[.slice (some ⟨3, 0, none⟩) ns ns, .slice (some ⟨4, 0, none⟩) nf nf], true, 1⟩, some ⟨[.int .i64 nd, .int .i64 c0, .int .i64 fa, .int .i64 ta], true, 1⟩, some ⟨[.slice (some ⟨0, 0, none⟩) n n, .slice (some ⟨1, 0, none⟩) p p, .slice (some ⟨2, 0, none⟩) w w, .int .i64 ex, .int .i64 no, .int .i64 th], true, 1⟩, some ⟨[.slice (some ⟨0, 0, none⟩) n n, .slice (some ⟨1, 0, none⟩) p p, .slice (some ⟨2, 0, none⟩) w w, .int .i64 ex, .int .i64 no, .int .i64 th, .slice (some ⟨3, 0, none⟩) ns ns, .slice (some ⟨4, 0, none⟩) nf nf, .slice (some ⟨13, 0, none⟩) ne ne, .func (.func 66) #[] #[.pointer (some ⟨17, 0, none⟩)]], true, 1⟩])
    (R := fun y : Og => y.i ≤ ne) (μ := fun y : Og => ne - y.i) ⟨0⟩ (fitsD [0, 1, 2, 3, 4, 5, 6, 7, 8, 9, 10, 11, 12, 13, 14, 15, 16, 17, 18] (h4 := (by (repeat (first | exact MemD.nil | apply MemD.hole | (apply MemD.blk; rfl; (first | exact WkL.refl _ | exact WkL.ofEq (renL_map (fun _ => rfl) _).symm | exact WkL.ofEq (renL_flat _).symm | exact WkL.ofEq (ren_srcs hS (gOf_id rfl)).symm); rfl)))))) (Nat.zero_le _) ?_
  clear H
  rintro ⟨i⟩ g1
  dsimp only at *
  have : i = 0 ∨ i = 1 := by omega
  rcases this with rfl | rfl
  · skip
    repeat' first | intro h1 | refine st (h := ok_load_rowsE (f := emC) (cs := [.int .i64 n0, .int .i64 c0, .int .i64 f0, .int .i64 t0]) 0 (fun _ => rfl) hq0 rfl rfl rfl rfl (by omega)) ?_ | refine st ?_ | refine stRW [0, 1, 2, 3, 4, 5, 6, 7, 8, 9, 10, 11, 12, 13, 17] H2 ?_ (hsub := by (repeat (first | exact SubM.nil | apply SubM.hole | (apply SubM.rw; rfl; (first | exact WkL.refl _ | exact WkL.ofEq (renL_map (fun _ => rfl) _).symm | exact WkL.ofEq (renL_flat _).symm | exact WkL.ofEq (ren_srcs hS (gOf_id rfl)).symm)) | (apply SubM.ro; rfl; (first | exact WkL.refl _ | exact WkL.ofEq (renL_map (fun _ => rfl) _).symm | exact WkL.ofEq (renL_flat _).symm | exact WkL.ofEq (ren_srcs hS (gOf_id rfl)).symm))))) | refine stm ?_ | refine run_nil ?_ | refine sd ?_ | refine sdl ?_ | refine Jk ?_ | refine Jl ?_ | refine Jm ?_ | refine Jo ?_ ?_ | refine rund_nil ?_ | refine Jz ?_ | refine Jw ?_ | refine Jx (id := 12) [0,1,0,4,15,31,63,127,63,319,1023,2047,4095,8191,16383,8191,40959,131071,262143,524287,1048575,2097151,4194303,8388607,4194303,4194303,54525951,121634815,255852543,536870911,1073741823,2147483647] 32 ?_ | refine aw_block ?_ | refine Jq ?_ | refine Jr ?_ | refine Js ?_ | refine Jy ?_ | refine aw_exit ?_
    all_goals first | exact Exists.intro ⟨1⟩ ⟨fitsD [0, 1, 2, 3, 4, 5, 6, 7, 8, 9, 10, 11, 12, 13, 14, 15, 16, 17, 18] (h4 := (by (repeat (first | exact MemD.nil | apply MemD.hole | (apply MemD.blk; rfl; (first | exact WkL.refl _ | exact WkL.ofEq (renL_map (fun _ => rfl) _).symm | exact WkL.ofEq (renL_flat _).symm | exact WkL.ofEq (ren_srcs hS (gOf_id rfl)).symm); rfl))))), by dsimp only; omega, by dsimp only; omega⟩ | (exfalso; omega)
  · skip
    repeat' first | refine st ?_ | refine run_nil ?_ | refine Jz ?_ | refine Jw ?_ | refine Jt ?_ | refine aw_exit ?_ | refine aw_ret ?_ | refine pp_ret ?_
    all_goals first | rfl
end Go.Proofs.YtdenooeaiicheaaGreat
namespace Go.Proofs.YtdenooeaiicheaaGreat
open Go Av
set_option maxRecDepth 20000
def xN : List P2 := [⟨0, 0⟩, ⟨30, 0⟩]
def xE : List Em := [⟨0, 8, 12120, 12568⟩]
theorem x_air : airE xN [90000, 90000] [] 2 10 2000 [] [] xE = 0 := by kernel_rfl
theorem x_rc : rcB 2 10 2000 xN [90000, 90000] [] [] [] xE 0 ⟨0, 8, 12120, 12568⟩ 1 = true := by kernel_rfl
theorem x_chan : ACalls Tryz.prog 15 [.agg #[.int .i64 0, .int .i64 0, .int .i64 9, .slice (some ⟨0, 0, none⟩) 2 2], .int .i64 1, .int .i64 0] [some ⟨List.map (Value.int .i64) [7, 8], false, 1⟩] (.tuple #[.int .i64 8, .int .i64 0]) [none] :=
  ac_hopCh 0 0 9 [7, 8] 2 rfl (by omega) 1 0 (by kernel_rfl) (by decide) (by decide) 8 (by kernel_rfl)
set_option maxHeartbeats 16000000 in
theorem ac_works : ACalls Tryz.prog 4 [] [] (.bool true) [] := by
  have H1 := ac_timeXx
  have H2 := x_send
  have H3 := x_chan
  have H4 := x_window
  have H5 := ac_Hear1 xN [90000, 90000] [] 2 2 0 rfl rfl rfl (by decide) 2 10 2000 [] [] 0 0 rfl rfl (by decide) (by decide) (fun s hs => by cases hs) xE 1 rfl (by decide) x_air rfl 0 8 12120 12568 rfl 1 (by decide) 11020 13220 (by decide) (by decide) x_rc
  have H6 := x_split
  have H7 := x_new
  have H8 := x_black
  have H9 := x_sync
  refine acalls_law Tryz.func4 rfl rfl rfl ?_
  refine aw_ghost 1 rfl ?_
  refine aw_ghost 1 rfl ?_
  refine aw_ghost 1 rfl ?_
  refine aw_ghost 1 rfl ?_
  refine aw_ghost 1 rfl ?_
  refine aw_ghost 1 rfl ?_
  refine aw_ghost 1 rfl ?_
  refine aw_ghost 1 rfl ?_
  refine aw_ghost 1 rfl ?_
  refine aw_ghost 1 rfl ?_
  refine aw_ghost 1 rfl ?_
  repeat' first | refine aw_view 2 1 11 rfl rfl (by decide) (by decide) ?_ | refine st ?_ | refine st_call (H1) ?_ | refine st_call (H2) ?_ | refine st_call (H4) ?_ | refine st_call (H9) ?_ | refine stRW [15] H3 ?_ | refine stRW [11, 12, 0, 1, 2, 3, 4, 5, 6, 7, 8, 9, 10, 16] H5 ?_ (hargs := WkL.cons (Wk.aggL (WkL.cons (Wk.refl _) (WkL.cons (Wk.refl _) (WkL.cons Wk.nil (WkL.ofEq rfl))))) (WkL.cons (Wk.aggL (WkL.cons Wk.nil (WkL.cons Wk.nil WkL.nil))) (WkL.ofEq rfl))) (hsub := by (repeat (first | exact SubM.nil | apply SubM.hole | (apply SubM.ro; rfl; exact WkL.ofEq rfl)))) | refine stMW [] H6 ?_ | refine stMW [] H7 ?_ | refine stRW [18, 19, 20] H8 ?_ | refine stm ?_ | refine Ja ?_ | refine run_nil ?_ | refine Jz ?_ | refine Jw ?_ | refine Jr ?_ | refine Jy ?_ | refine aw_ret ?_ | refine pp_ret ?_
  all_goals first | rfl
end Go.Proofs.YtdenooeaiicheaaGreat
