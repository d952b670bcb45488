/- Walking in numbers of one's own: the library, part I. -/
import Derived.Test.YtnicgkhffingmaaVH
import Derived.Laws.IdiomStrings
set_option linter.unusedVariables false
set_option linter.unusedSimpArgs false
/- Walking in numbers of one's own: a call that reads blocks and makes new ones, in a region that draws its order. -/
namespace Go.Proofs.Ytnicgkhffingmaa.Av
theorem backFrom_roN {G : Nat → Nat} {gl : List Nat} {mc mc' : Mem} (h : (mc.all fun b => !rwB b) = true) : ∀ (i : Nat) (m : Mem), backFrom G gl mc mc' i m = m ++ (mc'.drop mc.length).map (image G)
  | _, [] => by simp [backFrom]
  | i, b :: m => by simp only [backFrom, backB_ro gl mc 0 h, backFrom_roN h (i + 1) m, List.cons_append]
section
variable {P : Program} {ρ : Operand → Option Value} {m : Mem} {d : Option Tmp} {t : TypeId} {pp : String} {af : Array Edge} {g : Option (Nat × Bool)}
/-- The bytes of a string, as a slice of their own. -/
theorem ok_str_bytes {src dst e : TypeId} {x : Operand} {s : ByteArray} {m' : Mem} {k : Nat} [Ty P src .string] [Ty P dst (.slice e)] [Ty P e (.int .u8)] (hx : ρ x = some (.string s)) (hm' : AppR (some ⟨s.data.toList.map u8v, true, 1⟩) m m' k) : OpOK P ⟨d, .convert src dst x, t, pp, af, g⟩ ρ m (.slice (some ⟨k, 0, none⟩) s.size s.size) m' := .gen fun F w0 μ A w hd hm ho => by
  obtain ⟨rfl, rfl⟩ := hm'.spec
  have hX := (ho x _ (by simp [Op.operands]) hx).string'
  have hrun := run_bytes_of_string (P := P) w src dst e s (Ty.eq (P := P) (t := src)) (Ty.eq (P := P) (t := dst)) (Ty.eq (P := P) (t := e))
  have hge := grownCap_ge w s.size 0 e
  have hsize : (bytesRow s (grownCap w s.size 0 e)).size = grownCap w s.size 0 e := by
    simp only [bytesRow, Array.size_append, Array.size_map, Array.size_replicate]
    have : s.data.size = s.size := rfl
    omega
  refine ⟨.slice (some ⟨w.heap.size, 0, none⟩) s.size (grownCap w s.size 0 e), _, _, ?_, Mu.set_ext, by simpa using Mu.set_dom hd, hm.drewM.alloc (e := e) (z := 1) (lo := (bytesRow s (grownCap w s.size 0 e)).size) (hi := (bytesRow s (grownCap w s.size 0 e)).size + 1) (cs := s.data.toList.map u8v) (c := bytesRow s (grownCap w s.size 0 e)) hd (fun j u hu => ?_) (fun j _ => by omega) (.inr (Nat.le_refl _)),
    .slc (L := ⟨w.heap.size, 0, (bytesRow s (grownCap w s.size 0 e)).size, 1, true⟩) Mu.set_same hge (fun _ => rfl) (fun _ => rfl) (fun _ => by simp only [Nat.zero_add, Nat.mul_one]; rw [hsize]; exact Nat.le_refl _)⟩
  · simp only [execOp, hX]
    rw [Sem.run_bind, hrun]
    rfl
  · have hlt : j < s.data.size := by
      have := (List.getElem?_eq_some_iff.1 hu).1
      simpa using this
    refine ⟨u, ?_, ?_⟩
    · unfold bytesRow
      rw [Array.getElem?_append_left (by simpa using hlt), Array.getElem?_map, ← Array.getElem?_toList]
      rw [List.getElem?_map] at hu
      exact hu
    · rw [List.getElem?_map] at hu
      cases hq : s.data.toList[j]? with
      | none => rw [hq] at hu; cases hu
      | some b => rw [hq] at hu; cases hu; exact .int _ _
/-- What is added to an empty slice. -/
theorem ok_append0 {S x : Operand} {sT xT ct e : TypeId} {id o c k sz b : Nat} {z : List Value} {B : Blk} {xs : List Value} {m' : Mem} {k' : Nat} [Ty P sT (.slice e)] [TyI P e sz b z] (hS : ρ S = some (.slice (some ⟨id, o, none⟩) 0 c)) (hB : live m id = some B) (hr : B.rw = true) (hz : Nat.beq B.z sz = true) (hsz : Nat.blt 0 sz = true) (hzl : Nat.beq z.length sz = true)
    (hx : Src P ρ m x xT sz k xs) (hfit : o ≤ B.cells.length) (hsm : k * b ≤ 140737488355328 ∧ k ≤ 9223372036854775807) (hm' : AppR (some ⟨xs, true, sz⟩) (m.set id none) m' k') (hmz : Nat.beq sz mapZ = false := by rfl) :
    OpOK P ⟨d, .call ⟨.builtin .append, #[S, x], #[sT, xT]⟩, ct, pp, af, g⟩ ρ m (.slice (some ⟨k', 0, none⟩) k k) m' := by
  have h := ok_append (P := P) (d := d) (ct := ct) (pp := pp) (af := af) (g := g) (sT := sT) (xT := xT) (n := 0) (olds := []) (cs := xs) hS hB hr hz hsz hzl hx (by simpa using hfit) (by simp) (List.nil_append _) (by simpa using hsm) hm' hmz
  rwa [Nat.zero_add] at h
/-- An empty slice of no room, as a text writes it. -/
theorem ok_buildSlice0 {t' e : TypeId} {sz b : Nat} {zs : List Value} [Ty P t' (.slice e)] [TyI P e sz b zs] : OpOK P ⟨d, .buildSlice t' 0 #[], t, pp, af, g⟩ ρ m (.slice (some ⟨0, 0, some 0⟩) 0 0) m := .gen fun F w0 μ A w hd hm ho => by
  have k1 := Ty.eq (P := P) (t := t')
  obtain ⟨ti, z, j1, j2, j3, j4, j5⟩ := TyI.ex (P := P) (t := e)
  refine ⟨.slice (some ⟨w.heap.size, 0, none⟩) 0 0, w.alloc (.cells #[] e (0, 0)), μ, ?_, Ext.refl _ _, hd, hm.keep rfl rfl rfl (by show _ ≤ (w.heap.push _).size; simp) (fun k hk => by show (w.heap.push _)[k]? = _; rw [Array.getElem?_push, if_neg (by omega)]), .slcLit⟩
  simp [execOp, Instr.buildSlice, run_und k1, run_size j1, Instr.fill, newRow, show Array.range 0 = #[] from rfl]
/-- What is added to such a slice, or to nil. -/
theorem ok_append_lit {S x : Operand} {sT xT ct e : TypeId} {k sz b : Nat} {z : List Value} {xs : List Value} {m' : Mem} {k' : Nat} {sv : Value} [Ty P sT (.slice e)] [TyI P e sz b z] (hS : ρ S = some sv) (hsv : sv = .slice none 0 0 ∨ ∃ j, sv = .slice (some ⟨j, 0, some 0⟩) 0 0) (hsz : Nat.blt 0 sz = true) (hzl : Nat.beq z.length sz = true)
    (hx : Src P ρ m x xT sz k xs) (hsm : k * b ≤ 140737488355328 ∧ k ≤ 9223372036854775807) (hm' : AppR (some ⟨xs, true, sz⟩) m m' k') (hmz : Nat.beq sz mapZ = false := by rfl) :
    OpOK P ⟨d, .call ⟨.builtin .append, #[S, x], #[sT, xT]⟩, ct, pp, af, g⟩ ρ m (.slice (some ⟨k', 0, none⟩) k k) m' := .gen fun F w0 μ A w hd hm ho => by
  have hmz' := notMap hmz
  obtain ⟨rfl, rfl⟩ := hm'.spec
  have hsz := Nat.blt_eq.mp hsz
  have hzl := Nat.eq_of_beq_eq_true hzl
  obtain ⟨ti, zv, i1, i2, i3, i4, i5⟩ := TyI.ex (P := P) (t := e)
  have hu := Ty.eq (P := P) (t := sT)
  have hvS := ho S _ (by simp [Op.operands, Call.operands]) hS
  obtain ⟨l1, l2, l3, ys, l4, l5, l6, l7, l8⟩ := hx.run hsz (A := A) hm fun u hu => ho x u (by simp [Op.operands, Call.operands]) hu
  obtain ⟨base, hX, hbase⟩ : ∃ base : Option Addr, A.eval S = .slice base 0 0 ∧ (base = none ∨ ∃ b', base = some ⟨b', 0, none⟩) := by
    generalize A.eval S = X at hvS
    rcases hsv with rfl | ⟨j, rfl⟩
    · cases hvS; exact ⟨none, rfl, .inl rfl⟩
    · cases hvS; exact ⟨_, rfl, .inr ⟨_, rfl⟩⟩
  by_cases hk : k = 0
  · subst hk
    have hx0 : xs = [] := List.eq_nil_of_length_eq_zero (by rw [l3]; simp)
    subst hx0
    have hy0 : ys = [] := List.eq_nil_of_length_eq_zero (by rw [l4]; simp)
    subst hy0
    have hfn := l7 0 (Nat.le_refl _)
    rcases hbase with rfl | ⟨b', rfl⟩
    · refine ⟨.slice none 0 0, w, _, ?_, Mu.set_ext, by simpa using Mu.set_dom hd, hm.ghost hd sz, .slcNil⟩
      obtain ⟨D, hD, rfl | ⟨e', rfl⟩⟩ := l2 <;> simp [execOp, resolve, invoke, builtin, hX, Builtin.append_, run_und hu, run_und hD, run_size i1, i2, l1, hfn]
    · refine ⟨.slice (some ⟨b', 0, none⟩) 0 0, w, _, ?_, Mu.set_ext, by simpa using Mu.set_dom hd, hm.ghost hd sz b' 0, .slc (L := ⟨b', 0, 0, sz, true⟩) Mu.set_same (Nat.le_refl _) (fun _ => rfl) (fun _ => rfl) (fun _ => by simp)⟩
      have hst : ∀ a, (storeCells a []).run P w = .ok () w := fun a => by simp [storeCells]
      obtain ⟨D, hD, rfl | ⟨e', rfl⟩⟩ := l2 <;> simp [execOp, resolve, invoke, builtin, hX, Builtin.append_, run_und hu, run_und hD, run_size i1, i2, l1, hfn, hst]
  · have hk : 0 < k := by omega
    have hfn := l8 w.drew (Nat.le_refl _) fun _ _ => rfl
    have hrun := run_app_grow (P := P) (ty := ct) (n := 0) (cap := 0) (base := base) (olds := []) hu i1 i4 l2 l1 (show 0 < 0 + k by omega) (by omega) (by rw [i3, Nat.zero_add]; exact growslice_fits hk hsm.1) (by cases base <;> simp [Builtin.firstCells, loadCells, loadCellsFrom]) (by rw [i2]; exact hfn)
    rw [Nat.zero_add] at hrun
    have hge := grownCap_ge w k 0 e
    have hsize : (([] : List Value).toArray ++ ys.toArray ++ Builtin.zeroCells zv.cells (grownCap w k 0 e - k)).size = (grownCap w k 0 e) * sz := by
      simp only [Array.size_append, List.size_toArray, List.length_nil, Nat.zero_add, l4, size_zeroCells, i5, hzl]
      rw [← Nat.add_mul]
      congr 1; omega
    refine ⟨.slice (some ⟨w.heap.size, 0, none⟩) k (grownCap w k 0 e), _, _, ?_, Mu.set_ext, by simpa using Mu.set_dom hd, hm.drewM.alloc (e := e) (z := sz) (lo := 0) (hi := 0) (cs := xs) (c := ([] : List Value).toArray ++ ys.toArray ++ Builtin.zeroCells zv.cells (grownCap w k 0 e - k)) hd (fun j u hu => ?_) (fun j _ => by omega),
      .slc (L := ⟨w.heap.size, 0, _, sz, true⟩) Mu.set_same hge (fun _ => rfl) (fun _ => rfl) (fun _ => by simp only [Nat.zero_add]; rw [hsize]; exact Nat.le_refl _)⟩
    · simp [execOp, resolve, invoke, builtin, hX, hrun]
    · have hjl : j < ys.length := by
        have := (List.getElem?_eq_some_iff.1 hu).1
        omega
      have hyj : ys[j]? = some ys[j] := List.getElem?_eq_getElem hjl
      refine ⟨ys[j], ?_, l5 _ u _ hu hyj⟩
      rw [Array.getElem?_append_left (by simp; omega)]
      simp
end
section
variable {P : Program} {ops : Array Oper} {M : List Nat} {kb base i : Nat} {l : List Oper} {σ : Slots} {m m' : Mem} {cr : List Nat} {K : Slots → Mem → Prop} {d : Option Tmp} {t : TypeId} {pp : String} {af : Array Edge}
theorem sdNR {fx : Operand} {xs : Array Operand} {at_ : Array TypeId} {f : FuncId} [FnI P f] {a1 a2 : Array Value} {vs args : List Value} {r r' : Value} {mc mc' N : Mem} (gl : List Nat) (nc : Nat) (hc : ACalls P f args mc r mc') (k : RunD P ops M kb base K (i + 1) l (put σ d r') (m ++ N) (cr ++ List.replicate nc i))
    (hi : Nat.blt i kb = true := by rfl) (hf : ev σ fx = some (.func (.func f) a1 a2) := by rfl) (hxs : ArgsR (ev σ) xs.toList vs := by ((repeat (apply ArgsR.cons; rfl)); exact ArgsR.nil))
    (hargs : WkL (a1.toList ++ vs ++ a2.toList) (renL (gOf gl ((vis base cr (fun j => (M.getD i 0).testBit j) m).length - mc.length)) args) := by (first | exact WkL.refl _ | exact WkL.ofEq (renL_map (fun _ => rfl) _).symm | exact WkL.ofEq (renL_flat _).symm | (focus ((repeat (first | exact WkL.nil | (apply WkL.cons; (first | exact Wk.refl _ | exact Wk.nil | (apply Wk.aggL; (repeat (first | exact WkL.nil | (apply WkL.cons; (first | exact Wk.refl _ | exact Wk.nil)))); first | done | fail))))); first | done | fail))))
    (hsub : SubM (gOf gl ((vis base cr (fun j => (M.getD i 0).testBit j) m).length - mc.length)) (vis base cr (fun j => (M.getD i 0).testBit j) m) gl mc := by ((repeat (first | exact SubM.nil | (apply SubM.rw; rfl; (first | exact WkL.refl _ | exact WkL.ofEq (renL_map (fun _ => rfl) _).symm | exact WkL.ofEq (renL_flat _).symm | (refine WkL.ofEq (subl_id ?_); constructor; first | done | fail) | (focus ((repeat (first | exact WkL.nil | (apply WkL.cons; (first | exact Wk.refl _ | exact Wk.nil | (apply Wk.aggL; (repeat (first | exact WkL.nil | (apply WkL.cons; (first | exact Wk.refl _ | exact Wk.nil)))); first | done | fail))))); first | done | fail)))) | (apply SubM.ro; rfl; (first | exact WkL.refl _ | exact WkL.ofEq (renL_map (fun _ => rfl) _).symm | exact WkL.ofEq (renL_flat _).symm | (refine WkL.ofEq (subl_id ?_); constructor; first | done | fail) | (focus ((repeat (first | exact WkL.nil | (apply WkL.cons; (first | exact Wk.refl _ | exact Wk.nil | (apply Wk.aggL; (repeat (first | exact WkL.nil | (apply WkL.cons; (first | exact Wk.refl _ | exact Wk.nil)))); first | done | fail))))); first | done | fail)))) | apply SubM.hole)); first | done | fail))
    (hgl : Nat.ble mc.length (vis base cr (fun j => (M.getD i 0).testBit j) m).length = true := by rfl) (hin : gl.all (fun j => Nat.blt j (vis base cr (fun j => (M.getD i 0).testBit j) m).length) = true := by rfl) (hle : Nat.ble mc.length mc'.length = true := by rfl)
    (hro : (mc.all fun b => !rwB b) = true := by rfl) (hnc : Nat.beq (mc'.length - mc.length) nc = true := by rfl)
    (hr : NV (ren (gOf gl ((vis base cr (fun j => (M.getD i 0).testBit j) m).length - mc.length)) r) r' := by constructor) (hN : NM ((mc'.drop mc.length).map (image (gOf gl ((vis base cr (fun j => (M.getD i 0).testBit j) m).length - mc.length)))) N := by repeat constructor)
    (hrw : (N.all fun b => match b with | some B => B.rw | none => true) = true := by rfl) : RunD P ops M kb base K i (⟨d, .call ⟨.value fx, xs, at_⟩, t, pp, af, none⟩ :: l) σ m cr := by
  have hnd : ndB gl mc = true := by
    unfold ndB
    rw [List.all_eq_true]
    rintro ⟨b, j⟩ hb
    have hb' : b ∈ mc := (List.mem_zipIdx' hb).2 ▸ List.getElem_mem _
    have := List.all_eq_true.1 hro b hb'
    simp [this]
  have h := ok_callM (P := P) (ρ := ev σ) (m := vis base cr (fun j => (M.getD i 0).testBit j) m) (d := d) (t := t) (pp := pp) (af := af) (g := none) (at_ := at_) gl hc hf hxs hargs hgl hsub hnd (fun j hj => Nat.blt_eq.mp (List.all_eq_true.1 hin j hj)) hle
  have hb : backL (gOf gl ((vis base cr (fun j => (M.getD i 0).testBit j) m).length - mc.length)) gl mc mc' (vis base cr (fun j => (M.getD i 0).testBit j) m) = vis base cr (fun j => (M.getD i 0).testBit j) m ++ N := by rw [← hN.eq]; exact backFrom_roN hro 0 _
  rw [hb, hr.eq] at h
  have hl : (m ++ N).length - m.length = nc := by
    rw [← Nat.eq_of_beq_eq_true hnc, ← hN.eq]; simp
  exact .mem (Sub.refl σ) rfl (Nat.blt_eq.mp hi) rfl h (extR_new _ _ N (vis_len _ _ _ _) hrw) (by rw [hl]; exact k)
end
end Go.Proofs.Ytnicgkhffingmaa.Av
/- Walking in numbers of one's own: rows that are stored into; cells of lists, by the element there. -/
namespace Go.Proofs.Ytnicgkhffingmaa.Av
/-- A struct stored into a row of structs. -/
theorem splice_rows {α : Type} {f : α → List Value} {x : α} {l : List α} {n o j : Nat} (hf : ∀ a, (f a).length = n) (hj : o = j * n) (h : j < l.length) : SpliceR (l.flatMap f) o (f x) ((l.set j x).flatMap f) := by
  subst hj
  have hlen := flat_len l (c := n) fun a _ => hf a
  have hle : j * n + (f x).length ≤ (l.flatMap f).length := by
    rw [hlen, hf, show j * n + n = (j + 1) * n from (Nat.succ_mul j n).symm]
    exact Nat.mul_le_mul_right _ h
  have hS := SpliceR.of (l := l.flatMap f) (o := j * n) (vs := f x) hle
  have e : (l.flatMap f).take (j * n) ++ f x ++ (l.flatMap f).drop (j * n + (f x).length) = (l.set j x).flatMap f := by
    rw [hf]
    clear hS hle hlen
    induction l generalizing j with
    | nil => exact absurd h (Nat.not_lt_zero _)
    | cons a l ih =>
      cases j with
      | zero =>
        rw [Nat.zero_mul, Nat.zero_add, List.take_zero, List.nil_append, List.flatMap_cons, List.drop_append_of_le_length (by rw [hf]; exact Nat.le_refl _), List.set_cons_zero, List.flatMap_cons]
        rw [List.drop_of_length_le (by rw [hf]; exact Nat.le_refl _), List.nil_append]
      | succ j =>
        have := ih (j := j) (by simpa using h)
        have e1 : (f a ++ l.flatMap f).take ((j + 1) * n) = f a ++ (l.flatMap f).take (j * n) := by
          rw [List.take_append, List.take_of_length_le (by rw [hf, Nat.succ_mul]; omega), hf, show (j + 1) * n - n = j * n by rw [Nat.succ_mul]; omega]
        have e2 : (f a ++ l.flatMap f).drop ((j + 1) * n + n) = (l.flatMap f).drop (j * n + n) := by
          rw [List.drop_append, List.drop_of_length_le (by rw [hf, Nat.succ_mul]; omega), hf, List.nil_append, show (j + 1) * n + n - n = j * n + n by rw [Nat.succ_mul]; omega]
        rw [List.flatMap_cons, e1, e2, List.set_cons_succ, List.flatMap_cons, List.append_assoc, List.append_assoc, ← this, List.append_assoc]
  rwa [e] at hS
section
variable {P : Program} {ρ : Operand → Option Value} {m : Mem} {d : Option Tmp} {t : TypeId} {pp : String} {af : Array Edge} {g : Option (Nat × Bool)}
/-- An element of a row of cells, that is known. -/
theorem ok_load_mapE {t' : TypeId} {α : Type} {f : α → Value} {l : List α} {a : α} {r : Bool} {z : Nat} {x : Operand} {id o : Nat} {D} (j : Nat) (ha : l[j]? = some a) [Ty P t' D] (hx : ρ x = some (.pointer (some ⟨id, o, none⟩))) (hB : live m id = some ⟨l.map f, r, z⟩) (hD : aggD D = false) (hj : o = j) (hz : Nat.beq z mapZ = false := by rfl) :
    OpOK P ⟨d, .load t' x, t, pp, af, g⟩ ρ m (f a) m := ok_load_at hx hB hD (by subst hj; simp [ha]) hz
end
end Go.Proofs.Ytnicgkhffingmaa.Av
