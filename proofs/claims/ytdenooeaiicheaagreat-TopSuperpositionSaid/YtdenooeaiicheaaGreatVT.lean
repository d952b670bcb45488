/- Walking in numbers of one's own: slices whose room is known. -/
import Derived.Test.YtdenooeaiicheaaGreatVS
set_option linter.unusedVariables false
set_option linter.unusedSimpArgs false
namespace Go.Proofs.YtdenooeaiicheaaGreat.Av
open Go
section
variable {P : Program} {ρ : Operand → Option Value} {m : Mem} {d : Option Tmp} {t : TypeId} {pp : String} {af : Array Edge} {g : Option (Nat × Bool)}
/-- The beginning of a slice of one's own: its room is known. -/
theorem ok_slice_cap {xt : TypeId} {x : Operand} {hi : Option Operand} {id o n c h : Nat} {e : TypeId} {sz b : Nat} {z} {B : Blk} [Ty P xt (.slice e)] [TyI P e sz b z] (hx : ρ x = some (.slice (some ⟨id, o, none⟩) n c)) (hB : live m id = some B) (hn : n ≠ 0) (hh : BndR ρ hi n h) (h1 : h ≤ n) :
    OpOK P ⟨d, .slice xt x none hi none, t, pp, af, g⟩ ρ m (.slice (some ⟨id, o, some 2⟩) h n) m := .val fun _ _ μ A w _ hm ho => by
  have hv := ho x _ (by simp [Op.operands]) hx
  obtain ⟨ti, _, k1, k2, _⟩ := TyI.ex (P := P) (t := e)
  generalize hX : A.eval x = X at hv
  obtain ⟨LB, q1, q2, _⟩ := hm.blk id B hB
  cases hv with
  | slc hL hc hb hof hrr =>
    rename_i cap b' off L
    rw [q1] at hL; cases hL
    have hbd := run_bounds (P := P) (isS := true) (A := A) (μ := μ) (lo := none) (l := 0) BndR.none hh (Nat.zero_le _) (show h ≤ cap by omega) (mem_bnd ho) w
    refine ⟨.slice (some ⟨b', off, none⟩) h cap, ?_, .slcCap q1 ⟨h1, hc⟩ ⟨hb (.inl hn), hof hn⟩ hrr⟩
    simp only [Option.map_none] at hbd
    simp only [execOp, hX, Instr.sliceAt, Instr.slice, Sem.run_bind, run_und (Ty.eq (P := P) (t := xt)), Result.andThen_ok, Option.map_none, hbd, run_size k1, k2, Sem.run_pure]
    split <;> simp [*, add_off]
  | slcNil => exact absurd rfl hn
/-- A part of a slice whose room is known. -/
theorem ok_slice_cap2 {xt : TypeId} {x : Operand} {lo hi : Option Operand} {id o n c l h : Nat} {e : TypeId} {sz b : Nat} {z} {B : Blk} [Ty P xt (.slice e)] [TyI P e sz b z] (hx : ρ x = some (.slice (some ⟨id, o, some 2⟩) n c)) (hB : live m id = some B) (hz : Nat.beq B.z sz = true) (hl : BndR ρ lo 0 l) (hh : BndR ρ hi n h) (h1 : l ≤ h ∧ h ≤ c ∧ l < c) :
    OpOK P ⟨d, .slice xt x lo hi none, t, pp, af, g⟩ ρ m (.slice (some ⟨id, o + l * sz, some 2⟩) (h - l) (c - l)) m := .val fun _ _ μ A w _ hm ho => by
  have hv := ho x _ (by simp [Op.operands]) hx
  obtain ⟨ti, _, k1, k2, _⟩ := TyI.ex (P := P) (t := e)
  generalize hX : A.eval x = X at hv
  obtain ⟨LB, q1, q2, _⟩ := hm.blk id B hB
  cases hv with
  | slcCap hL hc hb hr =>
    rename_i cap b' off L
    rw [q1] at hL; cases hL
    have hzz : LB.z = sz := q2.z.trans (Nat.eq_of_beq_eq_true hz)
    have hbd := run_bounds (P := P) (isS := true) (A := A) (μ := μ) hl hh h1.1 (show h ≤ cap by omega) (mem_bnd ho) w
    refine ⟨.slice (some ⟨b', off + l * sz, none⟩) (h - l) (cap - l), ?_, .slcCap q1 ⟨by omega, by omega⟩ ⟨hb.1, by omega⟩ fun hrw => ?_⟩
    · simp only [execOp, hX, Instr.sliceAt, Instr.slice, Sem.run_bind, run_und (Ty.eq (P := P) (t := xt)), Result.andThen_ok, Option.map_none, hbd, run_size k1, k2, Sem.run_pure]
      rw [if_neg (by omega)]
      simp [add_off]
    · have := hr hrw
      rw [hzz] at this ⊢
      have e1 : l * sz + (cap - l) * sz = cap * sz := by rw [← Nat.add_mul]; congr 1; omega
      omega
/-- A slice with three bounds, of which nobody looks at the room. -/
theorem ok_slice3 {xt : TypeId} {x lo hi mx : Operand} {id o n c l h q : Nat} {e : TypeId} {sz b : Nat} {z} {B : Blk} {k1 k2 k3 : IntKind} [Ty P xt (.slice e)] [TyI P e sz b z] (hx : ρ x = some (.slice (some ⟨id, o, none⟩) n c)) (hB : live m id = some B) (hz : Nat.beq B.z sz = true)
    (hl : ρ lo = some (.int k1 (l : Int))) (hh : ρ hi = some (.int k2 (h : Int))) (hm : ρ mx = some (.int k3 (q : Int))) (h1 : l < h ∧ h ≤ q ∧ q ≤ n) :
    OpOK P ⟨d, .slice xt x (some lo) (some hi) (some mx), t, pp, af, g⟩ ρ m (.slice (some ⟨id, o + l * sz, none⟩) (h - l) (h - l)) m := .val fun _ _ μ A w _ hm' ho => by
  have hv := ho x _ (by simp [Op.operands]) hx
  have e1 := (ho lo _ (by simp [Op.operands]) hl).int'
  have e2 := (ho hi _ (by simp [Op.operands]) hh).int'
  have e3 := (ho mx _ (by simp [Op.operands]) hm).int'
  obtain ⟨ti, _, i1, i2, _⟩ := TyI.ex (P := P) (t := e)
  generalize hX : A.eval x = X at hv
  obtain ⟨LB, q1, q2, _⟩ := hm'.blk id B hB
  cases hv with
  | slc hL hc hb hof hr =>
    rename_i cap b' off L
    rw [q1] at hL; cases hL
    have hzz : LB.z = sz := q2.z.trans (Nat.eq_of_beq_eq_true hz)
    have hq : (q : Int) ≤ cap := by omega
    have hhq : (h : Int) ≤ q := by omega
    have hlh : (l : Int) ≤ h := by omega
    have hbd : (Instr.sliceBounds true n cap (some (A.eval lo)) (some (A.eval hi)) (some (A.eval mx))).run P w = .ok (l, h, q) w := by
      simp [Instr.sliceBounds, Instr.sliceBound, e1, e2, e3, asIntOf, hq, hhq, hlh, show h ≤ q by omega, show l ≤ h by omega]
    refine ⟨.slice (some ⟨b', off + l * sz, none⟩) (h - l) (q - l), ?_, .slc q1 (by omega) (fun hh => hb (hh.imp (fun _ => by omega) fun h => h)) (fun _ => by have := hof (by omega); omega) (fun hrw => ?_)⟩
    · simp only [execOp, hX, Instr.sliceAt, Instr.slice, Sem.run_bind, run_und (Ty.eq (P := P) (t := xt)), Result.andThen_ok, Option.map_some, hbd, run_size i1, i2, Sem.run_pure]
      rw [if_neg (by omega)]
      simp [add_off]
    · have := hr hrw
      rw [hzz] at this ⊢
      have e1 : l * sz + (q - l) * sz = q * sz := by rw [← Nat.add_mul]; congr 1; omega
      have e2 : q * sz ≤ cap * sz := Nat.mul_le_mul_right _ (by omega)
      omega
  | slcNil => exfalso; omega
/-- A slice whose room is known is one whose room nobody knows. -/
theorem ok_move_cap {x : Operand} {id o n c : Nat} (hx : ρ x = some (.slice (some ⟨id, o, some 2⟩) n c)) : OpOK P ⟨d, .move x, t, pp, af, g⟩ ρ m (.slice (some ⟨id, o, none⟩) n n) m := .val fun _ _ μ A w _ hm ho => by
  have hv := ho x _ (by simp [Op.operands]) hx
  generalize hX : A.eval x = X at hv
  cases hv with
  | slcCap hL hc hb hr =>
    exact ⟨_, by simp [execOp, hX], .slc hL (by omega) (fun _ => hb.1) (fun _ => hb.2) hr⟩
/-- append where there is room: it is done in place, and the block has a new number then. -/
theorem ok_append_in {S x : Operand} {sT xT ct e : TypeId} {id o n c k sz b : Nat} {z : List Value} {B : Blk} {olds xs cs : List Value} {m' : Mem} {k' : Nat} [Ty P sT (.slice e)] [TyI P e sz b z] (hS : ρ S = some (.slice (some ⟨id, o, some 2⟩) n c)) (hB : live m id = some B) (hr : B.rw = true) (hne : 0 < c) (hz : Nat.beq B.z sz = true) (hsz : Nat.blt 0 sz = true)
    (hx : Src P ρ m x xT sz k xs) (hfit : o + n * sz ≤ B.cells.length) (hol : (B.cells.drop o).take (n * sz) = olds) (hcs : olds ++ xs = cs) (hroom : n + k ≤ c) (hm' : AppR (some ⟨cs, true, sz⟩) (m.set id none) m' k') (hmz : Nat.beq sz mapZ = false := by rfl) :
    OpOK P ⟨d, .call ⟨.builtin .append, #[S, x], #[sT, xT]⟩, ct, pp, af, g⟩ ρ m (.slice (some ⟨k', 0, some 2⟩) (n + k) c) m' := .gen fun F w0 μ A w hd hm ho => by
  obtain ⟨rfl, hk'⟩ := hm'.spec
  have hk' : k' = m.length := by simpa using hk'
  subst hk' hcs
  have hmz' := notMap hmz
  have hmzB : B.z ≠ mapZ := by rw [Nat.eq_of_beq_eq_true hz]; exact hmz'
  have hsz := Nat.blt_eq.mp hsz
  obtain ⟨ti, zv, i1, i2, i3, i4, i5⟩ := TyI.ex (P := P) (t := e)
  have hu := Ty.eq (P := P) (t := sT)
  have hvS := ho S _ (by simp [Op.operands, Call.operands]) hS
  obtain ⟨l1, l2, l3, ys, l4, l5, l6, l7, l8⟩ := hx.run hsz (A := A) hm fun u hu => ho x u (by simp [Op.operands, Call.operands]) hu
  obtain ⟨L, q1, q2, _⟩ := hm.blk id B hB
  have hLz : L.z = sz := q2.z.trans (Nat.eq_of_beq_eq_true hz)
  have holl : olds.length = n * sz := by rw [← hol]; simp; omega
  generalize hX : A.eval S = X at hvS
  cases hvS with
  | slcCap hL hc hb hcap =>
    rename_i cap b' off L1
    rw [q1] at hL; cases hL
    obtain ⟨rfl, rfl⟩ := hb
    have hcap := hcap (q2.rw hr)
    obtain ⟨os, o1, o2⟩ := exists_list (fun j y => w.cell? ⟨L.b, L.o + o + j, none⟩ = some y ∧ ∀ u, olds[j]? = some u → VR μ u y) (n * sz) fun j hj => by
      have hxj : B.cells[o + j]? = some olds[j] := by
        have : ((B.cells.drop o).take (n * sz))[j]? = some olds[j] := by
          have h0 : olds[j]? = some olds[j] := List.getElem?_eq_getElem (by omega)
          rw [← h0, hol]
        rw [List.getElem?_take, if_pos hj, List.getElem?_drop] at this
        exact this
      obtain ⟨y, y1, y2⟩ := q2.cells.cell hmzB hxj
      refine ⟨y, by rw [Nat.add_assoc]; exact y1, fun u hu => ?_⟩
      rw [List.getElem?_eq_getElem (by omega)] at hu
      cases hu; exact y2
    have hroom' : n + k ≤ cap := by omega
    have hN : ¬ L.N = 0 := fun h0 => by
      rw [hLz, h0] at hcap
      have := Nat.mul_pos (show 0 < cap by omega) hsz
      omega
    have hrow := (q2.row (.inl (q2.rw hr)) (.inl ⟨hr, hN⟩)).row hmzB
    obtain ⟨cc, et, lo, hi, r1, r2, r3⟩ := hrow
    have hcell : ∀ j, w.cell? ⟨L.b, j, none⟩ = cc[j]? := fun j => by simp [World.cell?, r1]
    have e1 : n * sz + k * sz = (n + k) * sz := (Nat.add_mul _ _ _).symm
    have e2 : (n + k) * sz ≤ cap * sz := Nat.mul_le_mul_right _ hroom'
    rw [hLz] at hcap
    have hfitc : L.o + o + n * sz + ys.length ≤ cc.size := by rw [l4, r2]; omega
    have hst := run_storeCells_cells (P := P) L.b (L.o + o + n * sz) ys 0 w (fun j hj => by
        rw [hcell]; simp; omega) (fun j hj => by
        simp only [World.frozen?, r1]
        have := r3.2 (L.o + o + n * sz + 0 + j) (by omega)
        simpa using this) l6
    rw [Nat.add_zero] at hst
    obtain ⟨a1, a2, a3, a4, a5, c', a6, a7, a8, a9⟩ := setCells_heap L.b ys (L.o + o + n * sz) w cc r1 hfitc
    have hrun := run_app_room (P := P) (ty := ct) hu i1 l2 l1 hroom' (by rw [i2, l7 k (Nat.le_refl _), List.take_of_length_le (by omega)]) (w' := w.setCells L.b (L.o + o + n * sz) ys) (a := ⟨L.b, L.o + o, none⟩) (by rw [i2, add_off]; exact hst)
    refine ⟨.slice (some ⟨L.b, L.o + o, none⟩) (n + k) cap, w.setCells L.b (L.o + o + n * sz) ys, _, ?_, Mu.set_ext, by simpa using Mu.set_dom hd,
      hm.replace hd (L' := ⟨L.b, L.o + o, L.N, sz, true⟩) (cs := olds ++ xs) hB q1 ⟨hr, hN⟩ rfl rfl a1 a2 a3 a4 a5 ⟨c', et, lo, hi, a6, a7.trans r2, r3.1, fun j hj => r3.2 j (by omega)⟩ fun j x hx => ?_,
      .slcCap (L := ⟨L.b, L.o + o, L.N, sz, true⟩) Mu.set_same ⟨hroom, hc.2⟩ ⟨rfl, rfl⟩ fun _ => hcap⟩
    · simp [execOp, resolve, invoke, builtin, hX, hrun]
    · have hcell' : (w.setCells L.b (L.o + o + n * sz) ys).cell? ⟨L.b, L.o + o + j, none⟩ = c'[L.o + o + j]? := by simp [World.cell?, a6]
      show ∃ y, (w.setCells L.b (L.o + o + n * sz) ys).cell? ⟨L.b, L.o + o + j, none⟩ = some y ∧ VR μ x y
      rw [hcell']
      rcases Nat.lt_or_ge j (n * sz) with hj | hj
      · rw [List.getElem?_append_left (by omega)] at hx
        have hoj : os[j]? = some os[j] := List.getElem?_eq_getElem (by omega)
        have := o2 j _ hoj
        exact ⟨os[j], by rw [a9 (L.o + o + j) (by omega), ← hcell]; exact this.1, this.2 x hx⟩
      · rw [List.getElem?_append_right (by omega), holl] at hx
        have hjl : j - n * sz < ys.length := by
          have := (List.getElem?_eq_some_iff.1 hx).1
          omega
        have hyj : ys[j - n * sz]? = some ys[j - n * sz] := List.getElem?_eq_getElem hjl
        refine ⟨ys[j - n * sz], ?_, l5 _ x _ hx hyj⟩
        have := a8 (j - n * sz) hjl
        rw [show L.o + o + n * sz + (j - n * sz) = L.o + o + j by omega] at this
        rw [this]; exact hyj
/-- Cells behind a block's own are cleared. -/
theorem ok_clear_cap {x : Operand} {xT ct e : TypeId} {id o n c sz b : Nat} {z : List Value} {B : Blk} [Ty P xT (.slice e)] [TyI P e sz b z] (hx : ρ x = some (.slice (some ⟨id, o, some 2⟩) n c)) (hB : live m id = some B) (hr : B.rw = true) (hsz : Nat.blt 0 sz = true) (hz : Nat.beq B.z sz = true) (hzl : Nat.beq z.length sz = true) (hz1 : z.all (·.oneCell') = true) (ho : B.cells.length ≤ o) (hmz : Nat.beq sz mapZ = false := by rfl) :
    OpOK P ⟨d, .call ⟨.builtin .clear, #[x], #[xT]⟩, ct, pp, af, g⟩ ρ m (.tuple #[]) m := .gen fun F w0 μ A w hd hm ho' => by
  have hmz' := notMap hmz
  have hmzB : B.z ≠ mapZ := by rw [Nat.eq_of_beq_eq_true hz]; exact hmz'
  have hzl := Nat.eq_of_beq_eq_true hzl
  obtain ⟨ti, zv, i1, i2, i3, i4, i5⟩ := TyI.ex (P := P) (t := e)
  have hu := Ty.eq (P := P) (t := xT)
  have hv := ho' x _ (by simp [Op.operands, Call.operands]) hx
  obtain ⟨L, q1, q2, _⟩ := hm.blk id B hB
  have hLz : L.z = sz := q2.z.trans (Nat.eq_of_beq_eq_true hz)
  generalize hX : A.eval x = X at hv
  cases hv with
  | slcCap hL hc hb hcap =>
    rename_i cap b' off L1
    rw [q1] at hL; cases hL
    obtain ⟨rfl, rfl⟩ := hb
    have hcap := hcap (q2.rw hr)
    rw [hLz] at hcap
    by_cases hn : n = 0
    · subst hn
      exact ⟨.tuple #[], w, μ, by simp [execOp, resolve, invoke, builtin, hX, Builtin.clear_, run_und hu], Ext.refl _ _, hd, hm, .tuple rfl fun i u v h => by simp at h⟩
    have hN : ¬ L.N = 0 := fun h0 => by
      rw [h0] at hcap
      have := Nat.mul_pos (show 0 < cap by omega) (Nat.blt_eq.mp hsz)
      omega
    have hrow := (q2.row (.inl (q2.rw hr)) (.inl ⟨hr, hN⟩)).row hmzB
    obtain ⟨cc, et, lo, hi, r1, r2, r3⟩ := hrow
    have hcell : ∀ j, w.cell? ⟨L.b, j, none⟩ = cc[j]? := fun j => by simp [World.cell?, r1]
    obtain ⟨ys, hys⟩ : ∃ ys, (Builtin.zeroCells zv.cells n).toList = ys := ⟨_, rfl⟩
    have hyl : ys.length = n * sz := by rw [← hys, Array.length_toList, size_zeroCells, i5]; simp [hzl]
    have hy1 : ∀ v ∈ ys, v.oneCell' = true := fun v hv => by
      rw [← hys] at hv
      unfold Builtin.zeroCells at hv
      rw [Array.toList_map, List.mem_map] at hv
      obtain ⟨i, hi, rfl⟩ := hv
      rw [i5] at hi ⊢
      have hi2 : i < n * z.length := by simpa using hi
      have hz0 : 0 < z.length := by
        rcases Nat.eq_zero_or_pos z.length with h | h
        · rw [h] at hi2; simp at hi2
        · exact h
      have hlt : i % z.toArray.size < z.toArray.size := Nat.mod_lt _ (by simpa using hz0)
      rw [getElem!_pos z.toArray _ hlt]
      exact List.all_eq_true.1 hz1 _ (by simp)
    have e2 : n * sz ≤ cap * sz := Nat.mul_le_mul_right _ (by omega)
    have hfitc : L.o + o + ys.length ≤ cc.size := by rw [hyl, r2]; omega
    have hst := run_storeCells_cells (P := P) L.b (L.o + o) ys 0 w (fun j hj => by
        rw [hcell]; simp; omega) (fun j hj => by
        simp only [World.frozen?, r1]
        have := r3.2 (L.o + o + 0 + j) (by omega)
        simpa using this) hy1
    rw [Nat.add_zero] at hst
    obtain ⟨a1, a2, a3, a4, a5, c', a6, a7, a8, a9⟩ := setCells_heap L.b ys (L.o + o) w cc r1 hfitc
    have hw := hm.writeC (w' := w.setCells L.b (L.o + o) ys) (cs := B.cells) hB hmzB q1 ⟨hr, hN⟩ a1 a2 a3 a4 a5 ⟨c', et, lo, hi, a6, a7.trans r2, r3.1, fun j hj => r3.2 j (by omega)⟩ fun j x hx => by
      obtain ⟨y, y1, y2⟩ := q2.cells.cell hmzB hx
      have hj := (List.getElem?_eq_some_iff.1 hx).1
      refine ⟨y, ?_, y2⟩
      rw [← y1, hcell]
      simp only [World.cell?, a6]
      exact a9 (L.o + j) (by omega)
    have hset : m.set id (some { B with cells := B.cells }) = m := by
      apply List.ext_getElem?
      intro i
      rw [List.getElem?_set]
      by_cases hi : id = i
      · subst hi
        rw [live_some] at hB
        rw [if_pos rfl, if_pos (List.getElem?_eq_some_iff.1 hB).1]
        exact hB.symm
      · rw [if_neg hi]
    rw [hset] at hw
    refine ⟨.tuple #[], _, μ, ?_, Ext.refl _ _, hd, hw, .tuple rfl fun i u v h => by simp at h⟩
    simp [execOp, resolve, invoke, builtin, hX, Builtin.clear_, run_und hu, zeroValue, run_info i1, i4, hys, hst, hn]
end
end Go.Proofs.YtdenooeaiicheaaGreat.Av
