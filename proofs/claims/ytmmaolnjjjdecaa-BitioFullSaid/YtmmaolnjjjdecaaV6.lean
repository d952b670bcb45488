/- Walking in numbers of one's own: aggregates built, slices made, cut, added to; strings and bytes. -/
import Derived.Test.YtmmaolnjjjdecaaV5
import Derived.Laws.BytesString
set_option linter.unusedVariables false
set_option linter.unusedSimpArgs false
namespace Go.Proofs.Ytmmaolnjjjdecaa.Av
/-- The places of a struct's fields: offset, size. -/
class TyP (P : Program) (t : TypeId) (ps : outParam (List (Nat × Nat))) : Prop where
  eq : ∃ gs : Array Field, P.underlying t = some (.struct gs) ∧ (gs.toList.mapM fun f => (P.info? f.type).map fun i => (f.offset, i.size)) = some ps
inductive BuildR (ρ : Operand → Option Value) (pl : Nat → Option (Nat × Nat)) : List Value → List (Nat × Operand) → List Value → Prop
  | nil {cs} : BuildR ρ pl cs [] cs
  | cons {cs i x v vs o n cs1 ps cs2} : ρ x = some v → pl i = some (o, n) → ListR v.cells.toList vs → Nat.beq vs.length n = true → SpliceR cs o vs cs1 → BuildR ρ pl cs1 ps cs2 → BuildR ρ pl cs ((i, x) :: ps) cs2
def VRs (μ : Mu) (cs : List Value) (ys : Array Value) : Prop := cs.length = ys.size ∧ ∀ (i : Nat) u v, cs[i]? = some u → ys[i]? = some v → VR μ u v
theorem foldl_set : ∀ (l : List Value) (k o : Nat) (ys : Array Value), o + k + l.length ≤ ys.size →
    ((l.zipIdx k).foldl (fun (cs : Array Value) (p : Value × Nat) => cs.setIfInBounds (o + p.2) p.1) ys).size = ys.size ∧
    (∀ j, j < l.length → ((l.zipIdx k).foldl (fun (cs : Array Value) (p : Value × Nat) => cs.setIfInBounds (o + p.2) p.1) ys)[o + k + j]? = l[j]?) ∧
    (∀ j, j < o + k ∨ o + k + l.length ≤ j → ((l.zipIdx k).foldl (fun (cs : Array Value) (p : Value × Nat) => cs.setIfInBounds (o + p.2) p.1) ys)[j]? = ys[j]?)
  | [], k, o, ys, _ => ⟨rfl, fun j hj => by simp at hj, fun _ _ => rfl⟩
  | v :: l, k, o, ys, h => by
    obtain ⟨h1, h2, h3⟩ := foldl_set l (k + 1) o (ys.setIfInBounds (o + k) v) (by simp at h ⊢; omega)
    simp only [List.zipIdx_cons, List.foldl_cons]
    refine ⟨by rw [h1]; simp, fun j hj => ?_, fun j hj => ?_⟩
    · cases j with
      | zero =>
        rw [h3 _ (by omega)]
        simp at h
        simp [show o + k < ys.size by omega]
      | succ j =>
        have := h2 j (by simpa using hj)
        rw [show o + k + (j + 1) = o + (k + 1) + j by omega, this]
        simp
    · rw [h3 j (by simp at hj; omega)]
      simp [show o + k ≠ j by simp at hj; omega]
theorem fill_ok {ρ : Operand → Option Value} {pl : Nat → Option (Nat × Nat)} {μ : Mu} {a : Act} {cs cs' : List Value} {ps : List (Nat × Operand)} (h : BuildR ρ pl cs ps cs') :
    ∀ {ys : Array Value}, VRs μ cs ys → (∀ x u, x ∈ ps.map (·.2) → ρ x = some u → VR μ u (a.eval x)) → ∃ ys', Instr.fill pl ys (ps.map fun p => (p.1, a.eval p.2)) = some ys' ∧ VRs μ cs' ys' := by
  induction h with
  | nil => exact fun h _ => ⟨_, rfl, h⟩
  | cons hx hp hl hn hs _ ih =>
    rename_i cs i x v vs o n cs1 ps cs2 _
    intro ys hy ho
    have hv := ho x v (by simp) hx
    obtain ⟨c1, c2⟩ := hv.cells
    have hl := hl.spec
    subst hl
    have hn := Nat.eq_of_beq_eq_true hn
    obtain ⟨s1, s2, s3, s4⟩ := hs.spec
    have hlen : (a.eval x).cells.toList.length = v.cells.toList.length := by simpa using c1.symm
    obtain ⟨f1, f2, f3⟩ := foldl_set (a.eval x).cells.toList 0 o ys (by rw [hlen, ← hy.1]; omega)
    have hz : ∀ (ys : Array Value), ((a.eval x).cells.zipIdx.foldl (fun (cs : Array Value) (p : Value × Nat) => cs.setIfInBounds (o + p.2) p.1) ys) = (((a.eval x).cells.toList.zipIdx 0).foldl (fun (cs : Array Value) (p : Value × Nat) => cs.setIfInBounds (o + p.2) p.1) ys) := fun ys => by
      rw [← Array.foldl_toList]
      simp
    have hvr : VRs μ cs1 (((a.eval x).cells.toList.zipIdx 0).foldl (fun (cs : Array Value) (p : Value × Nat) => cs.setIfInBounds (o + p.2) p.1) ys) := by
      refine ⟨by rw [s2, hy.1, f1], fun j u y hu hyj => ?_⟩
      by_cases hj : o ≤ j ∧ j < o + v.cells.toList.length
      · have e1 := s3 (j - o) (by omega)
        have e2 := f2 (j - o) (by omega)
        rw [show o + (j - o) = j by omega, hu] at e1
        rw [show o + 0 + (j - o) = j by omega, hyj] at e2
        exact c2 (j - o) u y (by rw [← Array.getElem?_toList]; exact e1.symm) (by rw [← Array.getElem?_toList]; exact e2.symm)
      · rw [s4 j (by omega)] at hu
        rw [f3 j (by omega)] at hyj
        exact hy.2 j u y hu hyj
    obtain ⟨ys', k1, k2⟩ := ih hvr fun x u hx hu => ho x u (by simp only [List.map_cons, List.mem_cons]; exact .inr hx) hu
    refine ⟨ys', ?_, k2⟩
    simp only [List.map_cons, Instr.fill, hp]
    have hsz : (a.eval x).cells.size = n := by rw [← c1, ← hn]; simp
    rw [if_neg (by simp only [hsz, ne_eq, not_true_eq_false, decide_false, Bool.false_or, decide_eq_true_eq]; rw [← hy.1]; simp at s1 hn; omega)]
    rw [hz]
    exact k1
theorem run_places {P : Program} (w : World) : ∀ (l : List Field) (ps : List (Nat × Nat)), (l.mapM fun f => (P.info? f.type).map fun i => (f.offset, i.size)) = some ps →
    (l.mapM (fun f => do pure (f.offset, ← sizeOf f.type) : Field → Sem (Nat × Nat))).run P w = .ok ps w
  | [], ps, h => by simp at h; subst h; rfl
  | f :: l, ps, h => by
    rw [List.mapM_cons] at h
    cases hi : P.info? f.type with
    | none => rw [hi] at h; simp at h
    | some i =>
      rw [hi] at h
      cases hr : (l.mapM fun f => (P.info? f.type).map fun i => (f.offset, i.size)) with
      | none => rw [hr] at h; simp at h
      | some qs =>
        rw [hr] at h
        simp at h
        subst h
        have ih := run_places w l qs hr
        simp only [List.mapM_cons, Sem.run_bind, run_size hi, Result.andThen_ok, Sem.run_pure, ih]
section
variable {P : Program} {ρ : Operand → Option Value} {m : Mem} {d : Option Tmp} {t : TypeId} {pp : String} {af : Array Edge} {g : Option (Nat × Bool)}
theorem zero_vr {μ : Mu} {zs : List Value} (hp : zs.all (plain 2) = true) : VRs μ zs zs.toArray := ⟨by simp, fun i u v hu hv => by
  simp only [List.getElem?_toArray] at hv
  rw [hu] at hv; cases hv
  exact plain_refl μ 2 u (List.all_eq_true.1 hp u (List.mem_of_getElem? hu))⟩
theorem ok_build {t' : TypeId} {parts : Array (Nat × Operand)} {ps : List (Nat × Nat)} {n b : Nat} {zs cs : List Value} [TyP P t' ps] [TyI P t' n b zs] (hp : zs.all (plain 2) = true) (hb : BuildR ρ (fun i => ps[i]?) zs parts.toList cs) :
    OpOK P ⟨d, .build t' parts, t, pp, af, g⟩ ρ m (.agg cs.toArray) m := .val fun _ _ μ A w _ _ ho => by
  obtain ⟨gs, k1, k2⟩ := TyP.eq (P := P) (t := t')
  obtain ⟨ti, z, j1, j2, j3, j4, j5⟩ := TyI.ex (P := P) (t := t')
  obtain ⟨ys, h1, h2⟩ := fill_ok (μ := μ) (a := A) hb (zero_vr hp) fun x u hx hu => ho x u (by simpa [Op.operands] using hx) hu
  refine ⟨.agg ys, ?_, .agg (by simpa using h2.1) fun i u v hu hv => h2.2 i u v (by simpa using hu) hv⟩
  have e : (fun (i : Nat) => (ps.toArray)[i]?) = fun (i : Nat) => ps[i]? := by funext i; simp
  simp only [execOp, Instr.build, Sem.run_bind, run_zero j1 j4, Result.andThen_ok, run_und k1, Array.mapM_eq_mapM_toList, Sem.run_map, run_places w _ _ k2, j5]
  rw [e]
  have e2 : (Array.map (fun x => match x with | (i, x) => (i, A.eval x)) parts).toList = parts.toList.map fun p => (p.1, A.eval p.2) := by simp
  rw [e2, h1]
  simp
theorem ok_build_array {t' e : TypeId} {k sz b0 : Nat} {z0 : List Value} {parts : Array (Nat × Operand)} {n b : Nat} {zs cs : List Value} [Ty P t' (.array k e)] [TyI P e sz b0 z0] [TyI P t' n b zs] (hp : zs.all (plain 2) = true) (hb : BuildR ρ (fun i => some (i * sz, sz)) zs parts.toList cs) :
    OpOK P ⟨d, .build t' parts, t, pp, af, g⟩ ρ m (.agg cs.toArray) m := .val fun _ _ μ A w _ _ ho => by
  have k1 := Ty.eq (P := P) (t := t')
  obtain ⟨te, _, i1, i2, _⟩ := TyI.ex (P := P) (t := e)
  obtain ⟨ti, z, j1, j2, j3, j4, j5⟩ := TyI.ex (P := P) (t := t')
  obtain ⟨ys, h1, h2⟩ := fill_ok (μ := μ) (a := A) hb (zero_vr hp) fun x u hx hu => ho x u (by simpa [Op.operands] using hx) hu
  refine ⟨.agg ys, ?_, .agg (by simpa using h2.1) fun i u v hu hv => h2.2 i u v (by simpa using hu) hv⟩
  have e2 : (Array.map (fun x => match x with | (i, x) => (i, A.eval x)) parts).toList = parts.toList.map fun p => (p.1, A.eval p.2) := by simp
  simp only [execOp, Instr.build, Sem.run_bind, run_zero j1 j4, Result.andThen_ok, run_und k1, run_size i1, i2, j5]
  rw [e2, h1]
  simp
/-- A slice of some elements. -/
theorem ok_buildSlice {t' e : TypeId} {len sz b : Nat} {zs cs0 cs : List Value} {parts : Array (Nat × Operand)} {m' : Mem} {k : Nat} [Ty P t' (.slice e)] [TyI P e sz b zs] (hp : zs.all (plain 2) = true) (hle : Nat.ble (len * sz) 16777216 = true) (hz0 : ((List.range (len * sz)).map fun i => zs.getD (i % sz) undef) = cs0) (hzl : Nat.beq zs.length sz = true) (hsz : Nat.blt 0 sz = true)
    (hb : BuildR ρ (fun i => some (i * sz, sz)) cs0 parts.toList cs) (hm' : AppR (some ⟨cs, true, sz⟩) m m' k) :
    OpOK P ⟨d, .buildSlice t' len parts, t, pp, af, g⟩ ρ m (.slice (some ⟨k, 0, none⟩) len len) m' := .gen fun F w0 μ A w hd hm ho => by
  obtain ⟨rfl, rfl⟩ := hm'.spec
  have k1 := Ty.eq (P := P) (t := t')
  obtain ⟨ti, z, j1, j2, j3, j4, j5⟩ := TyI.ex (P := P) (t := e)
  have hzl := Nat.eq_of_beq_eq_true hzl
  have hsz := Nat.blt_eq.mp hsz
  have hle := Nat.le_of_ble_eq_true hle
  have hcs0 : cs0.all (plain 2) = true := by
    subst hz0
    rw [List.all_eq_true]
    intro x hx
    obtain ⟨i, _, rfl⟩ := List.mem_map.1 hx
    have : i % sz < zs.length := by rw [hzl]; exact Nat.mod_lt _ hsz
    rw [List.getD_eq_getElem?_getD, List.getElem?_eq_getElem this]
    exact List.all_eq_true.1 hp _ (List.getElem_mem _)
  obtain ⟨ys, h1, h2⟩ := fill_ok (μ := μ) (a := A) hb (zero_vr hcs0) fun x u hx hu => ho x u (by simpa [Op.operands] using hx) hu
  have hcl : cs.length = len * sz := by
    have : ∀ {pl cs ps cs'}, BuildR ρ pl cs ps cs' → cs'.length = cs.length := fun {pl cs ps cs'} h => by
      induction h with
      | nil => rfl
      | cons _ _ _ _ hs _ ih => rw [ih, (hs.spec).2.1]
    rw [this hb, ← hz0]; simp
  refine ⟨.slice (some ⟨w.heap.size, 0, none⟩) len len, w.alloc (.cells ys e (0, 0)), _, ?_, Mu.set_ext, by simpa using Mu.set_dom hd, hm.alloc (e := e) (z := sz) (lo := 0) (hi := 0) (cs := cs) (c := ys) hd (fun j u hu => ?_) (fun j _ => by omega),
    .slc (L := ⟨w.heap.size, 0, ys.size, sz, true⟩) Mu.set_same (Nat.le_refl _) (fun _ => rfl) (fun _ => rfl) (fun _ => by show 0 + len * sz ≤ ys.size; rw [← h2.1, hcl]; omega)⟩
  · have e2 : (Array.map (fun x => match x with | (i, x) => (i, A.eval x)) parts).toList = parts.toList.map fun p => (p.1, A.eval p.2) := by simp
    have hcs : ∀ zz : Array Value, (len * sz ≠ 0 → zz = zs.toArray) → (Array.range (len * sz)).map (fun i => zz[i % zz.size]!) = cs0.toArray := fun zz hzz => by
      rw [← hz0]
      apply Array.ext (by simp)
      intro i hi1 hi2
      have hi : i < len * sz := by simpa using hi1
      have hlt : i % sz < zs.length := by rw [hzl]; exact Nat.mod_lt _ hsz
      simp [hzz (by omega), hzl, List.getD_eq_getElem?_getD, List.getElem?_eq_getElem hlt]
    simp only [execOp, Instr.buildSlice, Sem.run_bind, Result.andThen_ok, run_und k1, run_size j1, j2]
    rw [if_neg (by omega)]
    by_cases hc : len * sz = 0
    · have h1' : Instr.fill (fun i => some (i * sz, sz)) (Array.map (fun i => (#[] : Array Value)[i % (#[] : Array Value).size]!) (Array.range (len * sz))) (Array.map (fun x => match x with | (i, x) => (i, A.eval x)) parts).toList = some ys := by
        rw [hcs #[] (fun h => absurd hc h), e2]; exact h1
      simp only [hc, if_true, Sem.run_bind, Sem.run_pure, Result.andThen_ok] at h1' ⊢
      rw [h1']
      simp [newRow]
    · have h1' : Instr.fill (fun i => some (i * sz, sz)) (Array.map (fun i => z.cells[i % z.cells.size]!) (Array.range (len * sz))) (Array.map (fun x => match x with | (i, x) => (i, A.eval x)) parts).toList = some ys := by
        rw [hcs z.cells (fun _ => j5), e2]; exact h1
      simp only [hc, if_false, Sem.run_bind, Sem.run_pure, Result.andThen_ok, run_zero j1 j4]
      rw [h1']
      simp [newRow]
  · have hlt : j < ys.size := by
      rw [← h2.1]
      exact (List.getElem?_eq_some_iff.1 hu).1
    exact ⟨_, Array.getElem?_eq_getElem hlt, h2.2 j u _ hu (Array.getElem?_eq_getElem hlt)⟩
end
end Go.Proofs.Ytmmaolnjjjdecaa.Av
