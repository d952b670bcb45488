/- Frames: Time at the example. The example: clocks. The example: quality, timesync. -/
import Derived.Test.YtdenooeaiicheaaGreatVL
import Derived.Test.YtdenooeaiicheaaGreatG4
import Derived.Test.YtdenooeaiicheaaGreatA4
import Derived.Test.YtdenooeaiicheaaGreatGB
import Derived.Test.YtdenooeaiicheaaGreatH2
set_option linter.unusedVariables false
set_option linter.unusedSimpArgs false
namespace Go.Proofs.YtdenooeaiicheaaGreat
open Go Av
set_option maxRecDepth 20000
theorem pr0 {α : Type} {p : α × Int} (h : p.2 = 0) : p = (p.1, 0) := Prod.ext rfl h
/-- The text of the example's frame. -/
def xD : ByteArray := ⟨#[120]⟩
def xB1 : List Int := (unsW [] 0 3 4).1
def xB2 : List Int := (unsW xB1 0 5 0).1
def xBf : List Int := (flgW xB2 0 true).1
def xB3 : List Int := (unsW xBf 0 5 1).1
def xB4 : List Int := (unsW xB3 0 8 0).1
def xB5 : List Int := (unsW xB4 0 8 0).1
def xB6 : List Int := (txtW xB5 0 127 xD).1
theorem x_h1 : unsW [] 0 3 4 = (xB1, 0) := pr0 (by kernel_rfl)
theorem x_h2 : unsW xB1 0 5 0 = (xB2, 0) := pr0 (by kernel_rfl)
theorem x_hf : flgW xB2 0 true = (xBf, 0) := pr0 (by kernel_rfl)
theorem x_h3 : unsW xBf 0 5 1 = (xB3, 0) := pr0 (by kernel_rfl)
theorem x_h4 : unsW xB3 0 8 0 = (xB4, 0) := pr0 (by kernel_rfl)
theorem x_h5 : unsW xB4 0 8 0 = (xB5, 0) := pr0 (by kernel_rfl)
theorem x_h6 : txtW xB5 0 127 xD = (xB6, 0) := pr0 (by kernel_rfl)
theorem x_len : xB6.length = 45 := by kernel_rfl
set_option maxHeartbeats 8000000 in
theorem ac_fckx : ACalls Tryz.prog 54 [.agg #[.int .i64 4, .int .i64 0, .int .i64 1, .int .i64 0, .int .i64 0, .int .i64 0, .int .i64 0, .int .i64 0, .int .i64 0, .int .i64 0, .int .i64 0, .string xD]] [] (.int .i64 0) [] := by
  have H := ac_fields4 0 1 0 0 0 0 0 0 0 0 xD true (by decide)
  have HS := ac_fin 0 31 true (by decide)
  have HL := ac_fin 0 255 true (by decide)
  refine acalls_law Tryz.func54 rfl rfl rfl ?_
  repeat' first | intro h1 | refine st ?_ | refine st_call (H) ?_ | refine st_call (HS) ?_ | refine st_call (HL) ?_ | refine stm ?_ | refine Ja ?_ | refine Jb ?_ | refine Ji ?_ ?_ | refine run_nil ?_ | refine Jz ?_ | refine Jw ?_ | refine Jq ?_ | refine Jr ?_ | refine Jy ?_ | refine aw_ret ?_ | refine pp_ret ?_
  all_goals first
    | rfl
    | (exfalso; omega)
    | (exfalso; simp only [Bool.not_eq_true', Bool.not_eq_false', decide_eq_true_eq, decide_eq_false_iff_not, Bool.not_false, Bool.not_true, eq_self, true_and, and_true, Classical.not_not, not_true_eq_false, not_false_eq_true] at *; first | (exact absurd rfl (by assumption)) | contradiction | omega)
    | (exfalso; clear H HS HL; simp_all; done)
    | (exfalso; clear H HS HL; simp_all; omega)
    | (exfalso; clear H HS HL; simp only [Bool.not_eq_true', Bool.not_eq_false', decide_eq_true_eq, decide_eq_false_iff_not, Bool.not_false, Bool.not_true, eq_self, true_and, and_true, Classical.not_not, not_true_eq_false, not_false_eq_true] at *; simp_all; done)
theorem ac_timeXx : ACalls Tryz.prog 13 [.agg #[.int .i64 4, .int .i64 0, .int .i64 1, .int .i64 0, .int .i64 0, .int .i64 0, .int .i64 0, .int .i64 0, .int .i64 0, .int .i64 0, .int .i64 0, .string xD]] [] (.tuple #[.int .i64 448, .int .i64 0]) [] := by
  have l1 : xB1.length ≤ 524288 := fw_len x_h1 (by decide) (by decide)
  have l2 := fw_len x_h2 (by decide) l1
  have lf := fw_len x_hf (by decide) l2
  have l3 := fw_len x_h3 (by decide) lf
  have l4 := fw_len x_h4 (by decide) l3
  have l5 := fw_len x_h5 (by decide) l4
  have H1 := ac_puW 3 4 0 0 [] xB1 [] _ 0 _ 0 _ rfl rfl rfl rfl rfl rfl (by decide) x_h1 (by decide) (by decide) ([.int .i64 4, .int .i64 0, .int .i64 1, .int .i64 0, .int .i64 0, .int .i64 0, .int .i64 0, .int .i64 0, .int .i64 0, .int .i64 0, .int .i64 0, .string xD]) 0 rfl
  have H2 := ac_puW 5 0 0 0 xB1 xB2 _ _ _ _ _ _ rfl rfl rfl rfl rfl rfl l1 x_h2 (by decide) (by decide) ([.int .i64 4, .int .i64 0, .int .i64 1, .int .i64 0, .int .i64 0, .int .i64 0, .int .i64 0, .int .i64 0, .int .i64 0, .int .i64 0, .int .i64 0, .string xD]) 1 rfl
  have H3 := ac_pt1W _ _ 0 _ xBf 1 0 0 xB2 xB3 _ _ _ _ _ _ rfl rfl rfl rfl rfl rfl l2 x_hf rfl rfl rfl lf x_h3 4 0 0 0 0 0 0 0 0 0 xD (by decide)
  have H4 := ac_puW 8 0 0 0 xB3 xB4 _ _ _ _ _ _ rfl rfl rfl rfl rfl rfl l3 x_h4 (by decide) (by decide) ([.int .i64 4, .int .i64 0, .int .i64 1, .int .i64 0, .int .i64 0, .int .i64 0, .int .i64 0, .int .i64 0, .int .i64 0, .int .i64 0, .int .i64 0, .string xD]) 3 rfl
  have H5 := ac_puW 8 0 0 0 xB4 xB5 _ _ _ _ _ _ rfl rfl rfl rfl rfl rfl l4 x_h5 (by decide) (by decide) ([.int .i64 4, .int .i64 0, .int .i64 1, .int .i64 0, .int .i64 0, .int .i64 0, .int .i64 0, .int .i64 0, .int .i64 0, .int .i64 0, .int .i64 0, .string xD]) 4 rfl
  have H6 := ac_pxW xD 0 0 xB5 xB6 _ _ _ _ _ _ rfl rfl rfl rfl rfl rfl l5 x_h6 (by decide) ([.int .i64 4, .int .i64 0, .int .i64 1, .int .i64 0, .int .i64 0, .int .i64 0, .int .i64 0, .int .i64 0, .int .i64 0, .int .i64 0, .int .i64 0, .string xD]) 11 rfl
  have HM := ac_pmW _ _ _ _ 0 0 _ _ 4 0 1 0 0 0 0 0 0 0 0 xD H6
  have HF := ac_pf4W _ _ _ _ _ _ _ _ _ _ _ _ _ _ 0 0 0 0 0 0 0 _ _ _ _ _ _ _ 0 0 1 0 0 0 0 0 0 0 0 xD H1 H2 H3 H4 H5 HM
  have HB := ac_bytes _ (xB6.length : Int) xB6 _ rfl rfl
  have hsz : (⟨((pack xB6).map b8).toArray⟩ : ByteArray).size = 6 := by
    show ((pack xB6).map b8).toArray.size = 6
    simp [pack_len, x_len]
  obtain ⟨T, hT, H7⟩ := ac_protE _ (show (⟨((pack xB6).map b8).toArray⟩ : ByteArray).size ≤ 1000000 by rw [hsz]; decide)
  rw [hsz] at hT
  exact ac_timeK 4 0 1 0 0 0 0 0 0 0 0 xD T (by omega) 448 (by rw [hT]; rfl) (ac_fenc2 _ _ 0 _ _ T 4 0 1 0 0 0 0 0 0 0 0 xD (by rw [hsz]; decide) rfl ac_fckx HF HB H7)
end Go.Proofs.YtdenooeaiicheaaGreat
namespace Go.Proofs.YtdenooeaiicheaaGreat
open Go Av
set_option maxRecDepth 20000
theorem fl_zero (t : Int) : flI (t * 0) = 0 := by rw [Int.mul_zero]; rfl
theorem sh_zero (t : Int) : shI 0 0 t = t := by unfold shI; rw [fl_zero]; omega
theorem rc_zero (x : Nat) (h : x ≤ 1099511627776) : rcI 0 0 x = x ∧ rcE 0 0 x = 0 := by
  have hn : ¬ (shI 0 0 1099511627776 < (x : Int)) := by rw [sh_zero]; omega
  unfold rcI rcE
  rw [if_neg hn, if_neg hn]
  refine ⟨?_, rfl⟩
  have := srch_at (shQ 0 0 x) x (fun t => by unfold shQ; rw [sh_zero]; exact decide_eq_decide.2 (by omega)) 1099511627776 0 1099511627776 (by omega) (by omega) h
  rw [this]
theorem x_send : ACalls Tryz.prog 14 [.agg #[.int .i64 0, .int .i64 0], .int .i64 1] [] (.tuple #[.int .i64 12120, .int .i64 0]) [] := by
  have h := rc_zero 12120 (by omega)
  refine ac_send 0 0 1 12120 0 ?_ ?_
  · unfold seI
    rw [if_pos (show csI 0 0 1 = 0 from rfl)]
    exact h.1
  · unfold seE
    rw [if_pos (show csI 0 0 1 = 0 from rfl)]
    exact h.2
set_option maxHeartbeats 4000000 in
theorem x_window : ACalls Tryz.prog 16 [.agg #[.int .i64 0, .int .i64 0], .int .i64 1] [] (.tuple #[.int .i64 11020, .int .i64 13220, .int .i64 0]) [] := by
  have H := ac_cchk 0 0 1 0 rfl
  have H1 := ac_of 0 0
  have H2 := ac_reach 0 0 11020 11020 0 (by decide) (by decide) (rc_zero 11020 (by omega)).1 (rc_zero 11020 (by omega)).2
  have H3 := ac_reach 0 0 13221 13221 0 (by decide) (by decide) (rc_zero 13221 (by omega)).1 (rc_zero 13221 (by omega)).2
  refine acalls_law Tryz.func16 rfl rfl rfl ?_
  repeat' first | refine st ?_ | refine st_call (H) ?_ | refine stMW [] H1 ?_ | refine stRW [1] H2 ?_ | refine stRW [2] H3 ?_ | refine stm ?_ | refine Ja ?_ | refine run_nil ?_ | refine Jz ?_ | refine Jw ?_ | refine Jr ?_ | refine Jy ?_ | refine aw_ret ?_ | refine pp_ret ?_
  all_goals first | rfl
end Go.Proofs.YtdenooeaiicheaaGreat
namespace Go.Proofs.YtdenooeaiicheaaGreat
open Go Av
set_option maxRecDepth 20000
theorem ok_makeSlice2 {P : Program} {ρ : Operand → Option Value} {m : Mem} {d : Option Tmp} {t : TypeId} {pp : String} {af : Array Edge} {g : Option (Nat × Bool)} {t' e : TypeId} {x y : Operand} {k1 k2 : IntKind} {a c : Int} {b : Nat} {z : Value} {m' : Mem} {k : Nat} [Ty P t' (.slice e)] [TyI P e 2 b [z, z]] (hp : plain 2 z = true) (hx : ρ x = some (.int k1 a)) (hy : ρ y = some (.int k2 c)) (h : 0 ≤ a ∧ a ≤ c ∧ b * c ≤ 140737488355328 ∧ c ≤ 140737488355328)
    (hm' : AppR (some ⟨List.replicate (c.toNat * 2) z, true, 2⟩) m m' k) : OpOK P ⟨d, .makeSlice t' x y, t, pp, af, g⟩ ρ m (.slice (some ⟨k, 0, none⟩) a.toNat a.toNat) m' := .gen fun F w0 μ A w hd hm ho => by
  obtain ⟨rfl, rfl⟩ := hm'.spec
  obtain ⟨h1, h2, h3, h4⟩ := h
  have e1 := (ho x _ (by simp [Op.operands]) hx).int'
  have e2 := (ho y _ (by simp [Op.operands]) hy).int'
  obtain ⟨ti, v, i1, i2, i3, i4, i5⟩ := TyI.ex (P := P) (t := e)
  have w1 : IntKind.i64.wrap a = a := wrap64 (by omega)
  have w2 : IntKind.i64.wrap c = c := wrap64 (by omega)
  have hnt : ¬ (c < 0) := by omega
  have hb : ¬ ((ti.bytes : Int) * c > 2 ^ 48) := by rw [i3]; omega
  refine ⟨.slice (some ⟨w.heap.size, 0, none⟩) a.toNat c.toNat, w.alloc (.cells (Array.replicate (c.toNat * 2) z) e (0, 0)), _, ?_, Mu.set_ext, by simpa using Mu.set_dom hd,
    hm.alloc (e := e) (z := 2) (lo := 0) (hi := 0) (cs := List.replicate (c.toNat * 2) z) (c := Array.replicate (c.toNat * 2) z) hd (fun j u hu => ?_) (fun j _ => by omega),
    .slc (L := ⟨w.heap.size, 0, (Array.replicate (c.toNat * 2) z).size, 2, true⟩) Mu.set_same (by omega) (fun _ => rfl) (fun _ => rfl) (fun _ => by simp)⟩
  · have hz : ∀ zz : Array Value, (c.toNat ≠ 0 → zz = #[z, z]) → (Array.range (c.toNat * 2)).map (fun i => zz[i % zz.size]!) = Array.replicate (c.toNat * 2) z := fun zz hzz => by
      apply Array.ext (by simp)
      intro i hi1 hi2
      have : c.toNat ≠ 0 := by simp at hi1; omega
      obtain rfl := hzz (by omega)
      have : i % 2 = 0 ∨ i % 2 = 1 := by omega
      rcases this with h | h <;> simp [h]
    simp only [execOp, Instr.makeSlice, Sem.run_bind, run_und (Ty.eq (P := P) (t := t')), Result.andThen_ok, e1, e2, asInt, asIntOf, Sem.run_pure, run_info i1, w1, w2]
    have hcond : ((decide (c < 0) || decide ((ti.bytes : Int) * c > 2 ^ 48)) || decide (a < 0) || decide (a > c)) = false := by
      simp only [decide_eq_false hnt, decide_eq_false hb, Bool.false_or]
      rw [decide_eq_false (by omega), decide_eq_false (by omega)]; rfl
    simp only [hcond, Bool.false_eq_true, if_false, Sem.run_bind, Result.andThen_ok, run_askRoom, run_size i1, i2]
    by_cases hc0 : c.toNat * 2 = 0
    · simp only [hc0, if_true, Sem.run_bind, Sem.run_pure, Result.andThen_ok]
      simp [newRow, show Array.range 0 = #[] from rfl]
    · simp only [hc0, if_false, Sem.run_bind, Sem.run_pure, Result.andThen_ok, run_zero i1 i4]
      rw [hz v.cells (fun _ => by rw [i5])]
      simp [newRow]
  · rw [List.getElem?_replicate] at hu
    split at hu
    · rename_i hj
      cases hu
      exact ⟨z, by simp [hj], plain_refl _ 2 z hp⟩
    · cases hu
def ctC (p : Int × Int) : List Value := [.int .i64 p.1, .int .i64 p.2]
instance : RenF ctC := ⟨fun _ _ => rfl⟩
theorem rep_at {α : Type} {n i : Nat} {a : α} (h : i < n) : (List.replicate n a)[i]? = some a := by rw [List.getElem?_replicate, if_pos h]
set_option maxHeartbeats 4000000 in
theorem x_new : ACalls Tryz.prog 20 [] [] (.agg #[.int .i64 0, .slice (some ⟨0, 0, none⟩) 16 16, .slice (some ⟨1, 0, none⟩) 16 16, .slice (some ⟨2, 0, none⟩) 16 16]) [some ⟨(List.replicate 16 ((0 : Int), (0 : Int))).flatMap ctC, true, 2⟩, some ⟨List.map (Value.int .i64) (List.replicate 16 (0 : Int)), true, 1⟩, some ⟨List.map (Value.int .i64) (List.replicate 16 (0 : Int)), true, 1⟩] := by
  refine acalls_of_aw Tryz.func20 rfl rfl ?_
  repeat' first | refine sdm (n := 1) (h := by (apply ok_makeSlice2; rfl; rfl; rfl; decide; (focus ((repeat constructor); first | done | fail)))) ?_ | refine stm ?_ | refine run_nil ?_ | refine sd ?_ | refine sdm (n := 1) ?_ | refine sdb ?_ | refine rund_nil ?_ | refine Jz ?_ | refine Jw ?_ | refine Jx (id := 1) [0,0,0,7,15] 4 ?_ | refine aw_ret ?_
  all_goals first | exact pm_ret _ (renumD [1, 2, 3] (h4 := by (repeat (first | exact MemD.nil | apply MemD.hole | (apply MemD.blk; rfl; (exact WkL.ofEq rfl); rfl))))) rfl
theorem x_qchk : ACalls Tryz.prog 68 [.agg #[.int .i64 0, .int .i64 0]] [] (.int .i64 0) [] := by
  refine acalls_law Tryz.func68 rfl rfl rfl ?_
  repeat' first | refine st ?_ | refine stm ?_ | refine Ja ?_ | refine run_nil ?_ | refine Jz ?_ | refine Jw ?_ | refine Jr ?_ | refine Jy ?_ | refine aw_ret ?_ | refine pp_ret ?_
  all_goals first | rfl
theorem x_hold : ACalls Tryz.prog 69 [.int .i64 0] [] (.bool true) [] := by
  refine acalls_law Tryz.func69 rfl rfl rfl ?_
  repeat' first | refine st (h := ok_andK rfl rfl (v := 0) (by decide +kernel)) ?_ | refine st ?_ | refine Ja ?_ | refine run_nil ?_ | refine Jz ?_ | refine Jw ?_ | refine aw_ret ?_ | refine pp_ret ?_
  all_goals first | rfl
set_option maxHeartbeats 8000000 in
theorem x_valid : ACalls Tryz.prog 36 [.agg #[.int .i64 0, .slice (some ⟨0, 0, none⟩) 16 16, .slice (some ⟨1, 0, none⟩) 16 16, .slice (some ⟨2, 0, none⟩) 16 16]] [some ⟨(List.replicate 16 ((0 : Int), (0 : Int))).flatMap ctC, false, 2⟩, some ⟨List.map (Value.int .i64) (List.replicate 16 (0 : Int)), false, 1⟩, some ⟨List.map (Value.int .i64) (List.replicate 16 (0 : Int)), false, 1⟩] (.int .i64 0) [none, none, none] := by
  have H1 := x_qchk
  have H2 := x_hold
  refine acalls_law Tryz.func36 rfl rfl rfl ?_
  repeat' first | refine st ?_ | refine stm ?_ | refine Ja ?_ | refine run_nil ?_ | refine Jz ?_ | refine Jw ?_ | refine aw_block ?_ | refine Jr ?_ | refine Jy ?_
  refine aw_loopg
    (S := fun y : Og => [(1, .pointer (some ⟨3, 0, none⟩)), (33, .slice (some ⟨0, 0, none⟩) 16 16), (34, .int .i64 16), (35, .int .i64 y.i)])
    (B := fun _ : Og => [some ⟨(List.replicate 16 ((0 : Int), (0 : Int))).flatMap ctC, false, 2⟩, some ⟨List.map (Value.int .i64) (List.replicate 16 (0 : Int)), false, 1⟩, some ⟨List.map (Value.int .i64) (List.replicate 16 (0 : Int)), false, 1⟩, some ⟨[.int .i64 0, .slice (some ⟨0, 0, none⟩) 16 16, .slice (some ⟨1, 0, none⟩) 16 16, .slice (some ⟨2, 0, none⟩) 16 16], true, 1⟩])
    (R := fun y : Og => y.i ≤ 16) (μ := fun y : Og => 16 - y.i) ⟨0⟩ (fitsD [0, 1, 2, 3]) (Nat.zero_le _) ?_
  rintro ⟨i⟩ g1
  dsimp only at *
  by_cases hi : i < 16
  · have hc := rep_at (a := ((0 : Int), (0 : Int))) hi
    have hq := rep_at (a := (0 : Int)) hi
    repeat' first | refine st (h := ok_load_rowsE (f := ctC) (cs := [.int .i64 0, .int .i64 0]) i (fun _ => rfl) hc rfl rfl rfl rfl (by omega)) ?_ | refine st (h := ok_load_mapE (f := Value.int .i64) i hq rfl rfl rfl (by omega)) ?_ | refine st ?_ | refine st_call (H1) ?_ | refine st_call (H2) ?_ | refine stm ?_ | refine Ja ?_ | refine Jb ?_ | refine Jc ?_ | refine run_nil ?_ | refine Jz ?_ | refine Jw ?_ | refine aw_block ?_ | refine Jr ?_ | refine Js ?_ | refine Jy ?_
    all_goals first | exact Exists.intro ⟨i + 1⟩ ⟨fitsD [0, 1, 2, 3], hi, by dsimp only; omega⟩
  · obtain rfl : i = 16 := by omega
    repeat' first | refine st ?_ | refine run_nil ?_ | refine Jz ?_ | refine Jw ?_ | refine Jr ?_ | refine aw_exit ?_ | refine aw_ret ?_ | refine pp_ret ?_
    all_goals first | rfl
set_option maxHeartbeats 8000000 in
theorem x_black : ACalls Tryz.prog 19 [.agg #[.int .i64 0, .slice (some ⟨0, 0, none⟩) 16 16, .slice (some ⟨1, 0, none⟩) 16 16, .slice (some ⟨2, 0, none⟩) 16 16]] [some ⟨(List.replicate 16 ((0 : Int), (0 : Int))).flatMap ctC, false, 2⟩, some ⟨List.map (Value.int .i64) (List.replicate 16 (0 : Int)), false, 1⟩, some ⟨List.map (Value.int .i64) (List.replicate 16 (0 : Int)), false, 1⟩] (.tuple #[.slice none 0 0, .int .i64 0]) [none, none, none] := by
  have H1 := x_valid
  refine acalls_law Tryz.func19 rfl rfl rfl ?_
  repeat' first | refine st ?_ | refine stRW [0, 1, 2] H1 ?_ | refine stm ?_ | refine run_nil ?_ | refine Jz ?_ | refine Jw ?_ | refine aw_block ?_ | refine Jr ?_ | refine Jy ?_
  refine aw_loopg
    (S := fun y : Og => [(1, .pointer (some ⟨3, 0, none⟩)), (5, .slice none 0 0), (14, .slice (some ⟨1, 0, none⟩) 16 16), (15, .int .i64 16), (16, .int .i64 y.i)])
    (B := fun _ : Og => [some ⟨(List.replicate 16 ((0 : Int), (0 : Int))).flatMap ctC, false, 2⟩, some ⟨List.map (Value.int .i64) (List.replicate 16 (0 : Int)), false, 1⟩, some ⟨List.map (Value.int .i64) (List.replicate 16 (0 : Int)), false, 1⟩, some ⟨[.int .i64 0, .slice (some ⟨0, 0, none⟩) 16 16, .slice (some ⟨1, 0, none⟩) 16 16, .slice (some ⟨2, 0, none⟩) 16 16], true, 1⟩])
    (R := fun y : Og => y.i ≤ 16) (μ := fun y : Og => 16 - y.i) ⟨0⟩ (fitsD [0, 1, 2, 3]) (Nat.zero_le _) ?_
  clear H1
  rintro ⟨i⟩ g1
  dsimp only at *
  by_cases hi : i < 16
  · have hq := rep_at (a := (0 : Int)) hi
    repeat' first | refine st (h := ok_load_mapE (f := Value.int .i64) i hq rfl rfl rfl (by omega)) ?_ | refine st ?_ | refine run_nil ?_ | refine Jz ?_ | refine Jw ?_ | refine aw_block ?_ | refine Jr ?_ | refine Js ?_ | refine Jy ?_
    all_goals first | exact Exists.intro ⟨i + 1⟩ ⟨fitsD [0, 1, 2, 3], hi, by dsimp only; omega⟩
  · obtain rfl : i = 16 := by omega
    repeat' first | refine st ?_ | refine run_nil ?_ | refine Jz ?_ | refine Jw ?_ | refine Jr ?_ | refine aw_exit ?_ | refine aw_ret ?_ | refine pp_ret ?_
    all_goals first | rfl
theorem x_slot : ACalls Tryz.prog 70 [.int .i64 1] [] (.bool true) [] := by
  refine acalls_law Tryz.func70 rfl rfl rfl ?_
  repeat' first | refine st ?_ | refine Ja ?_ | refine run_nil ?_ | refine Jz ?_ | refine Jw ?_ | refine aw_ret ?_ | refine pp_ret ?_
  all_goals first | rfl
set_option maxHeartbeats 4000000 in
theorem x_schk : ACalls Tryz.prog 37 [.agg #[.int .i64 0, .int .i64 0, .int .i64 1, .int .i64 1]] [] (.int .i64 0) [] := by
  have H1 := x_slot
  have H2 := ac_clk 0 0 0 rfl
  refine acalls_law Tryz.func37 rfl rfl rfl ?_
  repeat' first | refine st (h := ok_not_dec2 rfl) ?_ | refine st ?_ | refine st_call (H1) ?_ | refine st_call (H2) ?_ | refine stm ?_ | refine Ja ?_ | refine run_nil ?_ | refine Jz ?_ | refine Jw ?_ | refine Jr ?_ | refine Jy ?_ | refine aw_ret ?_ | refine pp_ret ?_
  all_goals first | rfl
set_option maxHeartbeats 4000000 in
theorem x_sync : ACalls Tryz.prog 21 [.agg #[.int .i64 0, .int .i64 0, .int .i64 1, .int .i64 1], .int .i64 2, .int .i64 1] [] (.bool true) [] := by
  have H1 := x_schk
  refine acalls_law Tryz.func21 rfl rfl rfl ?_
  repeat' first | refine st ?_ | refine st_call (H1) ?_ | refine stm ?_ | refine Ja ?_ | refine run_nil ?_ | refine Jz ?_ | refine Jw ?_ | refine aw_ret ?_ | refine pp_ret ?_
  all_goals first | rfl
end Go.Proofs.YtdenooeaiicheaaGreat
