/- Walking in numbers of one's own: maps. -/
import Derived.Test.YtekkdoaakilafaaVL
import Derived.MapKept
set_option linter.unusedVariables false
set_option linter.unusedSimpArgs false
/- Walking in numbers of one's own: maps keyed by integers. -/
namespace Go.Proofs.Ytekkdoaakilafaa.Av
open Go.MapKept
section
variable {F : Nat → Prop} {w0 : World} {μ : Mu} {m : Mem} {w : World}
end
theorem mapFlat_len (es : List MapEntry) : (mapFlat es).length = 2 * es.length := by
  induction es with
  | nil => rfl
  | cons e es ih => rw [mapFlat_cons, List.length_cons, List.length_cons, ih, List.length_cons]; omega
theorem findNow_no {μ : Mu} {kd : IntKind} {k : IntKind} {n : Int} {cs : List Value} {es : List MapEntry} (h : MapR μ cs es) : noKey k n cs = true → ∀ i, Instr.findNow (.int kd) (.int k n) es i = some none := by
  induction h with
  | nil => intro _ i; rfl
  | cons h1 h2 h3 ih =>
    rename_i kk v e cs es
    intro hn i
    unfold noKey at hn
    split at hn
    · rename_i heq
      cases heq
      simp only [Bool.and_eq_true, Bool.not_eq_true', decide_eq_true_eq, decide_eq_false_iff_not] at hn
      obtain ⟨⟨rfl, hne⟩, hn⟩ := hn
      have e1 := h1.int'
      unfold Instr.findNow
      rw [e1]
      simp only [Instr.sameNow, if_true]
      rw [show (n == _) = false from beq_eq_false_iff_ne.2 fun h => hne h.symm]
      exact ih hn (i + 1)
    · rename_i heq; cases heq
    · cases hn
section
variable {P : Program} {ρ : Operand → Option Value} {m : Mem} {d : Option Tmp} {t : TypeId} {pp : String} {af : Array Edge} {g : Option (Nat × Bool)}
theorem RepM.putMap {F : Nat → Prop} {w0 : World} {μ : Mu} {w : World} (h : RepM F w0 μ m w) {id : Nat} {cs : List Value} {L : Loc} (hB : live m id = some ⟨cs, true, mapZ⟩) (hL : μ id = some L) (h1 : L.N ≠ 0) (h0 : L.o = 0) {es : Array MapEntry} {c c' : Nat} (hh : w.heap[L.b]? = some (.map es c)) (hR : MapR μ cs es.toList) {e : MapEntry} {kv v : Value} (hk : VR μ kv e.key) (hv : VR μ v e.val) :
    RepM F w0 μ (m.set id (some ⟨cs ++ [kv, v], true, mapZ⟩)) { w with heap := w.heap.setIfInBounds L.b (.map (es.push e) c') } := by
  have hlt : L.b < w.heap.size := by
    rcases Nat.lt_or_ge L.b w.heap.size with h | h
    · exact h
    · rw [Array.getElem?_eq_none h] at hh; cases hh
  have hnew : (w.heap.setIfInBounds L.b (.map (es.push e) c'))[L.b]? = some (.map (es.push e) c') := by simp [hlt]
  have hlen : ∀ {cs : List Value} {es : List MapEntry}, MapR μ cs es → cs.length = 2 * es.length := fun h => by
    induction h with
    | nil => rfl
    | cons _ _ _ ih => simp only [List.length_cons, ih]; omega
  have hcell : ∀ {cs : List Value} {es : List MapEntry}, MapR μ cs es → MapR μ (cs ++ [kv, v]) (es ++ [e]) := fun h => by
    induction h with
    | nil => exact .cons hk hv .nil
    | cons a b _ ih => exact .cons a b ih
  have hget : ∀ {cs : List Value} {es : List MapEntry}, MapR μ cs es → ∀ (j : Nat) x, cs[j]? = some x → ∃ y, (mapFlat es)[j]? = some y ∧ VR μ x y := fun h => by
    induction h with
    | nil => intro j x h; simp at h
    | cons a b _ ih =>
      intro j x hx
      match j with
      | 0 => simp at hx; subst hx; exact ⟨_, rfl, a⟩
      | 1 => simp at hx; subst hx; exact ⟨_, rfl, b⟩
      | j + 2 => obtain ⟨y, y1, y2⟩ := ih j x (by simpa using hx); exact ⟨y, by simpa [mapFlat_cons] using y1, y2⟩
  have hR' := hcell hR
  refine h.write (cs := cs ++ [kv, v]) hB hL ⟨rfl, h1⟩ rfl rfl rfl (by simp) (fun k hk => by simp [Ne.symm hk]) ?_ ?_
  · unfold RowZ
    rw [if_pos rfl]
    exact ⟨h1, h0, _, _, hnew, by rw [hlen hR']; simp⟩
  · intro j x hx
    obtain ⟨y, y1, y2⟩ := hget hR' j x hx
    refine ⟨y, ?_, y2⟩
    unfold zcell? mcell?
    rw [if_pos rfl]
    show (match (w.heap.setIfInBounds L.b (.map (es.push e) c'))[L.b]? with | some (.map es _) => (mapFlat es.toList)[L.o + j]? | _ => none) = some y
    rw [hnew, h0, Nat.zero_add]
    simpa using y1
theorem run_insert {t' kt et : TypeId} {k : IntKind} {r : Nat} {n : Int} {v : Value} {w : World} {es : Array MapEntry} {c : Nat} (ht : P.underlying t' = some (.map kt et)) (hk : P.underlying kt = some (.int k)) (hh : w.heap[r]? = some (.map es c)) (hno : Instr.findNow (.int k) (.int k n) es.toList 0 = some none) :
    (Instr.mapUpdate t' (.map (some r)) (.int k n) v).run P w = .ok () { w with heap := w.heap.setIfInBounds r (.map (es.push { key := .int k n, val := v, born := c }) (c + 1)) } := by
  simp [Instr.mapUpdate, run_und ht, MapKept.run_getObj_map hh, MapKept.run_checkKey hk (k := .int k n) (by simp [IsKey]), MapKept.run_findKey hk hno, MapKept.run_setObj_map _ hh, Result.andThen]
theorem ok_insert {t' kt et : TypeId} {k : IntKind} {x y z : Operand} {id : Nat} {n : Int} {v : Value} {cs : List Value} {m' : Mem} [Ty P t' (.map kt et)] [Ty P kt (.int k)] (hx : ρ x = some (.map (some id))) (hy : ρ y = some (.int k n)) (hz : ρ z = some v) (hB : live m id = some ⟨cs, true, mapZ⟩) (hno : noKey k n cs = true) (hm' : SetR (some ⟨cs ++ [.int k n, v], true, mapZ⟩) m id m') :
    OpOK P ⟨d, .insert t' x y z, t, pp, af, g⟩ ρ m undef m' := .skip fun F w0 μ A w hd hm ho => by
  obtain ⟨L, hL, e1⟩ := (ho x _ (by simp [Op.operands]) hx).map'
  have e2 := (ho y _ (by simp [Op.operands]) hy).int'
  have e3 := ho z _ (by simp [Op.operands]) hz
  have hm' := hm'.spec
  subst hm'
  obtain ⟨r1, r2, es, c, r3, r4, r5⟩ := hm.mapAt hB rfl hL (.inl rfl)
  have hrun := run_insert (P := P) (t' := t') (v := A.eval z) Ty.eq Ty.eq r3 (findNow_no (kd := k) r5 hno 0)
  exact ⟨_, by simp [execOp, e1, e2, hrun], by simpa using hd, hm.putMap (c' := c + 1) hB hL r1 r2 r3 r5 (e := { key := .int k n, val := A.eval z, born := c }) (.int k n) e3⟩
end
/-! ### calls that make memory, in a region that draws its order -/
section
variable {P : Program} {ops : Array Oper} {M : List Nat} {kb base i : Nat} {l : List Oper} {σ : Slots} {m m' : Mem} {cr : List Nat} {K : Slots → Mem → Prop} {d : Option Tmp} {t : TypeId} {pp : String} {af : Array Edge}
theorem backFrom_nil {G : Nat → Nat} {mc' : Mem} : ∀ (i : Nat) (m : Mem), backFrom G [] [] mc' i m = m ++ mc'.map (image G)
  | i, [] => by simp [backFrom]
  | i, b :: m => by simp [backFrom, backB, backFrom_nil (i + 1) m]
theorem sdN {fx : Operand} {xs : Array Operand} {at_ : Array TypeId} {f : FuncId} [FnI P f] {a1 a2 : Array Value} {vs args : List Value} {r r' : Value} {mc' N : Mem} (hc : ACalls P f args [] r mc') (k : RunD P ops M kb base K (i + 1) l (put σ d r') (m ++ N) (cr ++ List.replicate ((m ++ N).length - m.length) i))
    (hi : Nat.blt i kb = true := by rfl) (hf : ev σ fx = some (.func (.func f) a1 a2) := by rfl) (hxs : ArgsR (ev σ) xs.toList vs := by ((repeat (apply ArgsR.cons; rfl)); exact ArgsR.nil))
    (hargs : WkL (a1.toList ++ vs ++ a2.toList) (renL (gOf [] ((vis base cr (fun j => (M.getD i 0).testBit j) m).length)) args) := by (first | exact WkL.refl _ | fail))
    (hr : ren (gOf [] ((vis base cr (fun j => (M.getD i 0).testBit j) m).length)) r = r' := by rfl) (hN : mc'.map (image (gOf [] ((vis base cr (fun j => (M.getD i 0).testBit j) m).length))) = N := by rfl)
    (hrw : (N.all fun b => match b with | some B => B.rw | none => true) = true := by rfl) : RunD P ops M kb base K i (⟨d, .call ⟨.value fx, xs, at_⟩, t, pp, af, none⟩ :: l) σ m cr := by
  have h := ok_callM (P := P) (ρ := ev σ) (m := vis base cr (fun j => (M.getD i 0).testBit j) m) (d := d) (t := t) (pp := pp) (af := af) (g := none) (at_ := at_) [] hc hf hxs hargs (by rfl) SubM.nil rfl (fun j hj => by cases hj) (by rfl)
  have hb : backL (gOf [] ((vis base cr (fun j => (M.getD i 0).testBit j) m).length)) [] [] mc' (vis base cr (fun j => (M.getD i 0).testBit j) m) = vis base cr (fun j => (M.getD i 0).testBit j) m ++ N := by rw [← hN]; exact backFrom_nil 0 _
  simp only [List.length_nil, Nat.sub_zero] at h
  rw [hb, hr] at h
  exact .mem (Sub.refl σ) rfl (Nat.blt_eq.mp hi) rfl h (extR_new _ _ N (vis_len _ _ _ _) hrw) k
end
section
variable {P : Program} {ρ : Operand → Option Value} {m : Mem} {d : Option Tmp} {t : TypeId} {pp : String} {af : Array Edge} {g : Option (Nat × Bool)}
theorem ok_mapUpd {t' kt et : TypeId} {k : IntKind} {x y z : Operand} {id : Nat} {n : Int} {v : Value} {cs : List Value} {m' : Mem} [Ty P t' (.map kt et)] [Ty P kt (.int k)] (hx : ρ x = some (.map (some id))) (hy : ρ y = some (.int k n)) (hz : ρ z = some v) (hB : live m id = some ⟨cs, true, mapZ⟩) (hno : noKey k n cs = true) (hm' : SetR (some ⟨cs ++ [.int k n, v], true, mapZ⟩) m id m') :
    OpOK P ⟨d, .mapUpdate t' x y z, t, pp, af, g⟩ ρ m undef m' := .skip fun F w0 μ A w hd hm ho => by
  obtain ⟨L, hL, e1⟩ := (ho x _ (by simp [Op.operands]) hx).map'
  have e2 := (ho y _ (by simp [Op.operands]) hy).int'
  have e3 := ho z _ (by simp [Op.operands]) hz
  have hm' := hm'.spec
  subst hm'
  obtain ⟨r1, r2, es, c, r3, r4, r5⟩ := hm.mapAt hB rfl hL (.inl rfl)
  have hrun := run_insert (P := P) (t' := t') (v := A.eval z) Ty.eq Ty.eq r3 (findNow_no (kd := k) r5 hno 0)
  exact ⟨_, by simp [execOp, e1, e2, hrun], by simpa using hd, hm.putMap (c' := c + 1) hB hL r1 r2 r3 r5 (e := { key := .int k n, val := A.eval z, born := c }) (.int k n) e3⟩
theorem ok_lookup_no {t' kt et : TypeId} {k : IntKind} {x y : Operand} {id : Nat} {n : Int} {z : Bool} {cs : List Value} [Ty P t' (.map kt et)] [Ty P kt (.int k)] (hI : (P.info? et).map (fun i => i.zero) = some (some (.bool z))) (hx : ρ x = some (.map (some id))) (hy : ρ y = some (.int k n)) (hB : live m id = some ⟨cs, true, mapZ⟩) (hno : noKey k n cs = true) :
    OpOK P ⟨d, .lookup t' x y false, t, pp, af, g⟩ ρ m (.bool z) m := .val fun F w0 μ A w hd hm ho => by
  obtain ⟨L, hL, e1⟩ := (ho x _ (by simp [Op.operands]) hx).map'
  have e2 := (ho y _ (by simp [Op.operands]) hy).int'
  obtain ⟨r1, r2, es, c, r3, r4, r5⟩ := hm.mapAt hB rfl hL (.inl rfl)
  obtain ⟨i, i1, i4⟩ : ∃ i, P.info? et = some i ∧ i.zero = some (.bool z) := by
    cases hi : P.info? et with
    | none => rw [hi] at hI; cases hI
    | some i => rw [hi] at hI; exact ⟨i, rfl, Option.some.inj hI⟩
  refine ⟨_, ?_, .bool _⟩
  simp [execOp, e1, e2, Instr.lookup, run_und (Ty.eq (P := P) (t := t')), MapKept.run_getObj_map r3, MapKept.run_checkKey (Ty.eq (P := P) (t := kt)) (k := .int k n) (by simp [IsKey]), MapKept.run_findKey (Ty.eq (P := P) (t := kt)) (findNow_no (kd := k) r5 hno 0), Result.andThen, run_zero i1 i4]
end
end Go.Proofs.Ytekkdoaakilafaa.Av
