/- Walking in numbers of one's own: the library, part H. -/
import Derived.Test.YtdenooeaiicheaaGreatVG
import Derived.MapKept
set_option linter.unusedVariables false
set_option linter.unusedSimpArgs false
/- Walking in numbers of one's own: functions that hold values; rows of slices of structs. -/
namespace Go.Proofs.YtdenooeaiicheaaGreat.Av
section
variable {P : Program} {ρ : Operand → Option Value} {m : Mem} {d : Option Tmp} {t : TypeId} {pp : String} {af : Array Edge} {g : Option (Nat × Bool)}
theorem ok_makeFunc {fn : Fn} {xs ys : Array Operand} {vs us : List Value} (hx : ArgsR ρ xs.toList vs) (hy : ArgsR ρ ys.toList us) : OpOK P ⟨d, .makeFunc fn xs ys, t, pp, af, g⟩ ρ m (.func fn vs.toArray us.toArray) m := .val fun _ _ μ A w _ _ ho => by
  have h1 := hx.vr (μ := μ) (a := A) fun x u h hu => ho x u (by simp only [Op.operands, Array.mem_append]; exact .inl (by simpa using h)) hu
  have h2 := hy.vr (μ := μ) (a := A) fun x u h hu => ho x u (by simp only [Op.operands, Array.mem_append]; exact .inr (by simpa using h)) hu
  have l1 := hx.len
  have l2 := hy.len
  refine ⟨.func fn (xs.map A.eval) (ys.map A.eval), by simp [execOp, Instr.makeFunc], .func (by simpa using l1.symm) (fun i u v hu hv => ?_) (by simpa using l2.symm) (fun i u v hu hv => ?_)⟩
  · exact h1 i u v (by simpa using hu) (by simpa using hv)
  · exact h2 i u v (by simpa using hu) (by simpa using hv)
theorem flat_take {α : Type} {f : α → List Value} {c : Nat} (l : List α) (hl : ∀ a ∈ l, (f a).length = c) {j : Nat} {a : α} (h : l[j]? = some a) : TakeR (l.flatMap f) (j * c) c (f a) := by
  have hlen := flat_len l hl
  have hj := (List.getElem?_eq_some_iff.1 h).1
  have hle : j * c + c ≤ (l.flatMap f).length := by
    rw [hlen, show j * c + c = (j + 1) * c from (Nat.succ_mul j c).symm]
    exact Nat.mul_le_mul_right _ hj
  have hT := TakeR.of (l := l.flatMap f) hle
  have e : ((l.flatMap f).drop (j * c)).take c = f a := by
    have hfa : (f a).length = c := hl a (List.mem_of_getElem? h)
    apply List.ext_getElem?
    intro i
    rcases Nat.lt_or_ge i c with hi | hi
    · rw [List.getElem?_take, if_pos hi, List.getElem?_drop]
      exact flat_get l hl j i a h hi
    · rw [List.getElem?_eq_none (by simp; omega), List.getElem?_eq_none (by omega)]
  rwa [e] at hT
end
end Go.Proofs.YtdenooeaiicheaaGreat.Av
/- Walking in numbers of one's own: rows of slices of structs, named. -/
namespace Go.Proofs.YtdenooeaiicheaaGreat.Av
section
variable {P : Program} {ρ : Operand → Option Value} {m : Mem} {d : Option Tmp} {t : TypeId} {pp : String} {af : Array Edge} {g : Option (Nat × Bool)}
theorem ok_load_rowsE {t' : TypeId} {α : Type} {f : α → List Value} {l : List α} {a : α} {cs : List Value} {r : Bool} {z0 : Nat} {x : Operand} {id o n b : Nat} {zs : List Value} {D} (j : Nat) (hf : ∀ a, (f a).length = n) (ha : l[j]? = some a) (hv : f a = cs) [Ty P t' D] [TyI P t' n b zs] (hx : ρ x = some (.pointer (some ⟨id, o, none⟩))) (hB : live m id = some ⟨l.flatMap f, r, z0⟩) (hD : aggD D = true) (hj : o = j * n) (hz : Nat.beq z0 mapZ = false := by rfl) :
    OpOK P ⟨d, .load t' x, t, pp, af, g⟩ ρ m (.agg cs.toArray) m := by
  subst hj hv
  exact ok_loadN hx hB hD (flat_take l (fun a _ => hf a) ha) hz
theorem ok_load_rowcellE {t' : TypeId} {α : Type} {f : α → List Value} {l : List α} {a : α} {r : Bool} {z0 : Nat} {x : Operand} {id o n : Nat} {v : Value} {D} (j i : Nat) (hf : ∀ a, (f a).length = n) (ha : l[j]? = some a) (hv : (f a)[i]? = some v) (hin : i < n) [Ty P t' D] (hx : ρ x = some (.pointer (some ⟨id, o, none⟩))) (hB : live m id = some ⟨l.flatMap f, r, z0⟩) (hD : aggD D = false) (hj : o = j * n + i) (hz : Nat.beq z0 mapZ = false := by rfl) :
    OpOK P ⟨d, .load t' x, t, pp, af, g⟩ ρ m v m := by
  subst hj
  exact ok_load_at hx hB hD ((flat_get l (fun a _ => hf a) j i _ ha hin).trans hv) hz
end
end Go.Proofs.YtdenooeaiicheaaGreat.Av
/- Walking in numbers of one's own: what is compared with itself. -/
namespace Go.Proofs.YtdenooeaiicheaaGreat.Av
section
variable {P : Program} {ρ : Operand → Option Value} {m : Mem} {d : Option Tmp} {t : TypeId} {pp : String} {af : Array Edge} {g : Option (Nat × Bool)}
open Classical in
open Classical in
end
open Go.RowKit (Below)
open Go.ChangeShapes Go.WideShapes Go.ChangeAt
end Go.Proofs.YtdenooeaiicheaaGreat.Av
/- Walking in numbers of one's own: loops named by their place. -/
namespace Go.Proofs.YtdenooeaiicheaaGreat.Av
end Go.Proofs.YtdenooeaiicheaaGreat.Av
/- Walking in numbers of one's own: maps keyed by integers. -/
namespace Go.Proofs.YtdenooeaiicheaaGreat.Av
open Go.MapKept
section
variable {F : Nat → Prop} {w0 : World} {μ : Mu} {m : Mem} {w : World}
/-- A new map. -/
theorem RepM.allocMap (h : RepM F w0 μ m w) (hd : Dom μ m.length) : RepM F w0 (μ.set m.length ⟨w.heap.size, 0, 1, mapZ, true⟩) (m ++ [some ⟨[], true, mapZ⟩]) (w.alloc (.map #[] 0)) := by
  have hsub := Mu.set_sub (L := ⟨w.heap.size, 0, 1, mapZ, true⟩) (hd m.length (Nat.le_refl _))
  have hold : ∀ k, k < w.heap.size → (w.alloc (.map #[] 0)).heap[k]? = w.heap[k]? := fun k hk => by
    show (w.heap.push _)[k]? = _
    rw [Array.getElem?_push, if_neg (by omega)]
  have hnew : (w.alloc (.map #[] 0)).heap[w.heap.size]? = some (.map #[] 0) := by
    show (w.heap.push _)[w.heap.size]? = _
    simp
  have h' := h.keep (w' := w.alloc (.map #[] 0)) rfl rfl rfl (by simp) hold
  refine ⟨h'.os, h'.tape, h'.output, h'.size, h'.frame, h'.up, fun id B hB => ?_, fun id id' B B' L L' h1 h2 hne hl hl' hr hb => ?_⟩
  · rcases live_push.1 hB with hB1 | ⟨rfl, hB1⟩
    · obtain ⟨L, h1, h2, h3⟩ := h'.blk id B hB1
      exact ⟨L, hsub _ _ h1, h2.mono hsub, h3⟩
    · cases hB1
      exact ⟨_, Mu.set_same, ⟨fun _ => rfl, rfl, fun j x hx => by simp at hx, fun _ _ => (by unfold RowZ; rw [if_pos rfl]; exact ⟨Nat.one_ne_zero, rfl, _, _, hnew, rfl⟩), fun _ => Nat.one_ne_zero⟩, fun _ => h.up _ h.size⟩
  · have hlt : ∀ {id B L}, live m id = some B → Mu.set μ m.length ⟨w.heap.size, 0, 1, mapZ, true⟩ id = some L → Takes B L → L.b < w.heap.size ∧ μ id = some L := fun {id B L} ha hL hb => by
      obtain ⟨L0, k1, k2, _⟩ := h.blk id B ha
      have := hsub _ _ k1
      rw [this] at hL; cases hL
      exact ⟨k2.lt hb, k1⟩
    rcases live_push.1 h1 with g1 | ⟨rfl, e1⟩ <;> rcases live_push.1 h2 with g2 | ⟨rfl, e2⟩
    · exact h.excl id id' B B' L L' g1 g2 hne (hlt g1 hl (.inl hr)).2 (hlt g2 hl' hb).2 hr hb
    · rw [Mu.set_same] at hl'; cases hl'
      have := (hlt g1 hl (.inl hr)).1
      show L.b ≠ w.heap.size
      omega
    · rw [Mu.set_same] at hl; cases hl
      have := (hlt g2 hl' hb).1
      show w.heap.size ≠ L'.b
      omega
    · exact absurd rfl hne
theorem VR.map' {id : Nat} {y : Value} (h : VR μ (.map (some id)) y) : ∃ L, μ id = some L ∧ y = .map (some L.b) := by
  cases h with
  | map hL => exact ⟨_, hL, rfl⟩
end
/-- No key is n. -/
def noKey (k : IntKind) (n : Int) : List Value → Bool
  | .int k' n' :: _ :: l => decide (k' = k) && !decide (n' = n) && noKey k n l
  | [] => true
  | _ => false
/-- The value at a key. -/
def atKey? (k : IntKind) (n : Int) : List Value → Option Value
  | .int k' n' :: v :: l => cond (decide (k' = k)) (cond (decide (n' = n)) (some v) (atKey? k n l)) none
  | _ => none
theorem mapFlat_cons (e : MapEntry) (es : List MapEntry) : mapFlat (e :: es) = e.key :: e.val :: mapFlat es := rfl
/-- Cells and entries, one beside the other. -/
inductive MapR (μ : Mu) : List Value → List MapEntry → Prop
  | nil : MapR μ [] []
  | cons {k v e cs es} : VR μ k e.key → VR μ v e.val → MapR μ cs es → MapR μ (k :: v :: cs) (e :: es)
theorem mapR_of {μ : Mu} : ∀ (cs : List Value) (es : List MapEntry), cs.length = 2 * es.length → (∀ (j : Nat) x, cs[j]? = some x → ∃ y, (mapFlat es)[j]? = some y ∧ VR μ x y) → MapR μ cs es
  | [], [], _, _ => .nil
  | [], e :: es, h, _ => by simp at h
  | [_], es, h, _ => by simp at h; omega
  | _ :: _ :: _, [], h, _ => by simp at h
  | k :: v :: cs, e :: es, h, hv => by
    obtain ⟨y, h1, h2⟩ := hv 0 k rfl
    obtain ⟨z, h3, h4⟩ := hv 1 v rfl
    simp [mapFlat_cons] at h1 h3
    subst h1 h3
    refine .cons h2 h4 (mapR_of cs es (by simp at h; omega) fun j x hx => ?_)
    obtain ⟨u, k1, k2⟩ := hv (j + 2) x (by simpa using hx)
    exact ⟨u, by simpa [mapFlat_cons] using k1, k2⟩
theorem findNow_no {μ : Mu} {kd : IntKind} {k : IntKind} {n : Int} {cs : List Value} {es : List MapEntry} (h : MapR μ cs es) : noKey k n cs = true → ∀ i, Instr.findNow (.int kd) (.int k n) es i = some none := by
  induction h with
  | nil => intro _ i; rfl
  | cons h1 h2 h3 ih =>
    rename_i kk v e cs es
    intro hn i
    unfold noKey at hn
    split at hn
    · rename_i heq
      cases heq
      simp only [Bool.and_eq_true, Bool.not_eq_true', decide_eq_true_eq, decide_eq_false_iff_not] at hn
      obtain ⟨⟨rfl, hne⟩, hn⟩ := hn
      have e1 := h1.int'
      unfold Instr.findNow
      rw [e1]
      simp only [Instr.sameNow, if_true]
      rw [show (n == _) = false from beq_eq_false_iff_ne.2 fun h => hne h.symm]
      exact ih hn (i + 1)
    · rename_i heq; cases heq
    · cases hn
theorem findNow_at {μ : Mu} {kd : IntKind} {k : IntKind} {n : Int} {cs : List Value} {es : List MapEntry} (h : MapR μ cs es) : ∀ v, atKey? k n cs = some v → ∀ i, ∃ j y, Instr.findNow (.int kd) (.int k n) es i = some (some (j, y)) ∧ VR μ v y := by
  induction h with
  | nil => intro v h; cases h
  | cons h1 h2 h3 ih =>
    rename_i kk v e cs es
    intro u hn i
    unfold atKey? at hn
    split at hn
    · rename_i heq
      cases heq
      rename_i k' n'
      by_cases hk : k' = k
      · subst hk
        have e1 := h1.int'
        by_cases hnn : n' = n
        · subst hnn
          simp at hn
          subst hn
          refine ⟨i, e.val, ?_, h2⟩
          unfold Instr.findNow
          rw [e1]
          simp [Instr.sameNow]
        · rw [decide_eq_true rfl, decide_eq_false hnn] at hn
          obtain ⟨j, y, a1, a2⟩ := ih u hn (i + 1)
          refine ⟨j, y, ?_, a2⟩
          unfold Instr.findNow
          rw [e1]
          simp only [Instr.sameNow, if_true]
          rw [show (n == n') = false from beq_eq_false_iff_ne.2 fun h => hnn h.symm]
          exact a1
      · rw [decide_eq_false hk] at hn
        cases hn
    · cases hn
section
variable {P : Program} {ρ : Operand → Option Value} {m : Mem} {d : Option Tmp} {t : TypeId} {pp : String} {af : Array Edge} {g : Option (Nat × Bool)}
theorem run_makeMap0 {P : Program} (t : TypeId) (w : World) : (Instr.makeMap t none).run P w = .ok (.map (some w.heap.size)) (w.alloc (.map #[] 0)) := rfl
theorem ok_makeMap {t' : TypeId} {m' : Mem} {k : Nat} (hm' : AppR (some ⟨[], true, mapZ⟩) m m' k) : OpOK P ⟨d, .makeMap t' none, t, pp, af, g⟩ ρ m (.map (some k)) m' := .gen fun F w0 μ A w hd hm ho => by
  obtain ⟨rfl, rfl⟩ := hm'.spec
  exact ⟨.map (some w.heap.size), _, _, by simp [execOp, run_makeMap0], Mu.set_ext, by simpa using Mu.set_dom hd, hm.allocMap hd, .map (L := ⟨w.heap.size, 0, 1, mapZ, true⟩) Mu.set_same⟩
/-- What a map's block is in memory. -/
theorem RepM.mapAt {F : Nat → Prop} {w0 : World} {μ : Mu} {w : World} (h : RepM F w0 μ m w) {id : Nat} {B : Blk} {L : Loc} (hB : live m id = some B) (hz : B.z = mapZ) (hL : μ id = some L) (hb : B.rw = true ∨ B.cells ≠ []) : L.N ≠ 0 ∧ L.o = 0 ∧ ∃ es c, w.heap[L.b]? = some (.map es c) ∧ B.cells.length = 2 * es.toList.length ∧ MapR μ B.cells es.toList := by
  obtain ⟨L', h1, h2, _⟩ := h.blk id B hB
  rw [hL] at h1; cases h1
  have hr := h2.row (.inr hz) (hb.imp (fun h => ⟨h, h2.mN hz⟩) fun h => h)
  unfold RowZ at hr
  rw [if_pos hz] at hr
  obtain ⟨r1, r2, es, c, r3, r4⟩ := hr
  refine ⟨r1, r2, es, c, r3, r4, mapR_of _ _ r4 fun j x hx => ?_⟩
  obtain ⟨y, q1, q2⟩ := h2.cells j x hx
  unfold zcell? mcell? at q1
  rw [if_pos hz, r3, r2, Nat.zero_add] at q1
  exact ⟨y, q1, q2⟩
theorem RepM.putMap {F : Nat → Prop} {w0 : World} {μ : Mu} {w : World} (h : RepM F w0 μ m w) {id : Nat} {cs : List Value} {L : Loc} (hB : live m id = some ⟨cs, true, mapZ⟩) (hL : μ id = some L) (h1 : L.N ≠ 0) (h0 : L.o = 0) {es : Array MapEntry} {c c' : Nat} (hh : w.heap[L.b]? = some (.map es c)) (hR : MapR μ cs es.toList) {e : MapEntry} {kv v : Value} (hk : VR μ kv e.key) (hv : VR μ v e.val) :
    RepM F w0 μ (m.set id (some ⟨cs ++ [kv, v], true, mapZ⟩)) { w with heap := w.heap.setIfInBounds L.b (.map (es.push e) c') } := by
  have hlt : L.b < w.heap.size := by
    rcases Nat.lt_or_ge L.b w.heap.size with h | h
    · exact h
    · rw [Array.getElem?_eq_none h] at hh; cases hh
  have hnew : (w.heap.setIfInBounds L.b (.map (es.push e) c'))[L.b]? = some (.map (es.push e) c') := by simp [hlt]
  have hlen : ∀ {cs : List Value} {es : List MapEntry}, MapR μ cs es → cs.length = 2 * es.length := fun h => by
    induction h with
    | nil => rfl
    | cons _ _ _ ih => simp only [List.length_cons, ih]; omega
  have hcell : ∀ {cs : List Value} {es : List MapEntry}, MapR μ cs es → MapR μ (cs ++ [kv, v]) (es ++ [e]) := fun h => by
    induction h with
    | nil => exact .cons hk hv .nil
    | cons a b _ ih => exact .cons a b ih
  have hget : ∀ {cs : List Value} {es : List MapEntry}, MapR μ cs es → ∀ (j : Nat) x, cs[j]? = some x → ∃ y, (mapFlat es)[j]? = some y ∧ VR μ x y := fun h => by
    induction h with
    | nil => intro j x h; simp at h
    | cons a b _ ih =>
      intro j x hx
      match j with
      | 0 => simp at hx; subst hx; exact ⟨_, rfl, a⟩
      | 1 => simp at hx; subst hx; exact ⟨_, rfl, b⟩
      | j + 2 => obtain ⟨y, y1, y2⟩ := ih j x (by simpa using hx); exact ⟨y, by simpa [mapFlat_cons] using y1, y2⟩
  have hR' := hcell hR
  refine h.write (cs := cs ++ [kv, v]) hB hL ⟨rfl, h1⟩ rfl rfl rfl (by simp) (fun k hk => by simp [Ne.symm hk]) ?_ ?_
  · unfold RowZ
    rw [if_pos rfl]
    exact ⟨h1, h0, _, _, hnew, by rw [hlen hR']; simp⟩
  · intro j x hx
    obtain ⟨y, y1, y2⟩ := hget hR' j x hx
    refine ⟨y, ?_, y2⟩
    unfold zcell? mcell?
    rw [if_pos rfl]
    show (match (w.heap.setIfInBounds L.b (.map (es.push e) c'))[L.b]? with | some (.map es _) => (mapFlat es.toList)[L.o + j]? | _ => none) = some y
    rw [hnew, h0, Nat.zero_add]
    simpa using y1
theorem run_insert {t' kt et : TypeId} {k : IntKind} {r : Nat} {n : Int} {v : Value} {w : World} {es : Array MapEntry} {c : Nat} (ht : P.underlying t' = some (.map kt et)) (hk : P.underlying kt = some (.int k)) (hh : w.heap[r]? = some (.map es c)) (hno : Instr.findNow (.int k) (.int k n) es.toList 0 = some none) :
    (Instr.mapUpdate t' (.map (some r)) (.int k n) v).run P w = .ok () { w with heap := w.heap.setIfInBounds r (.map (es.push { key := .int k n, val := v, born := c }) (c + 1)) } := by
  simp [Instr.mapUpdate, run_und ht, MapKept.run_getObj_map hh, MapKept.run_checkKey hk (k := .int k n) (by simp [IsKey]), MapKept.run_findKey hk hno, MapKept.run_setObj_map _ hh, Result.andThen]
theorem ok_insert {t' kt et : TypeId} {k : IntKind} {x y z : Operand} {id : Nat} {n : Int} {v : Value} {cs : List Value} {m' : Mem} [Ty P t' (.map kt et)] [Ty P kt (.int k)] (hx : ρ x = some (.map (some id))) (hy : ρ y = some (.int k n)) (hz : ρ z = some v) (hB : live m id = some ⟨cs, true, mapZ⟩) (hno : noKey k n cs = true) (hm' : SetR (some ⟨cs ++ [.int k n, v], true, mapZ⟩) m id m') :
    OpOK P ⟨d, .insert t' x y z, t, pp, af, g⟩ ρ m undef m' := .skip fun F w0 μ A w hd hm ho => by
  obtain ⟨L, hL, e1⟩ := (ho x _ (by simp [Op.operands]) hx).map'
  have e2 := (ho y _ (by simp [Op.operands]) hy).int'
  have e3 := ho z _ (by simp [Op.operands]) hz
  have hm' := hm'.spec
  subst hm'
  obtain ⟨r1, r2, es, c, r3, r4, r5⟩ := hm.mapAt hB rfl hL (.inl rfl)
  have hrun := run_insert (P := P) (t' := t') (v := A.eval z) Ty.eq Ty.eq r3 (findNow_no (kd := k) r5 hno 0)
  exact ⟨_, by simp [execOp, e1, e2, hrun], by simpa using hd, hm.putMap (c' := c + 1) hB hL r1 r2 r3 r5 (e := { key := .int k n, val := A.eval z, born := c }) (.int k n) e3⟩
end
/-! ### calls that make memory, in a region that draws its order -/
section
variable {P : Program} {ops : Array Oper} {M : List Nat} {kb base i : Nat} {l : List Oper} {σ : Slots} {m m' : Mem} {cr : List Nat} {K : Slots → Mem → Prop} {d : Option Tmp} {t : TypeId} {pp : String} {af : Array Edge}
theorem extR_new : ∀ (v m N : Mem), v.length = m.length → (N.all fun b => match b with | some B => B.rw | none => true) = true → ExtR v (v ++ N) m (m ++ N)
  | [], [], N, _, h => .nil h
  | x :: v, y :: m, N, h, hN => .cons (extR_new v m N (by simpa using h) hN)
end
end Go.Proofs.YtdenooeaiicheaaGreat.Av
/- Walking in numbers of one's own: slices compared with nil. -/
namespace Go.Proofs.YtdenooeaiicheaaGreat.Av
theorem run_equalIn_slice {P : Program} (w : World) (d : Nat) (t e : TypeId) (a : Option Addr) (n c : Nat) (h : P.underlying t = some (.slice e)) : (Op.equalIn (d + 1) t (.slice a n c) (.slice none 0 0)).run P w = .ok a.isNone w := by
  cases a <;> simp only [Op.equalIn, Sem.run_bind, run_und h, Result.andThen_ok, Sem.run_pure] <;> rfl
section
variable {P : Program} {ρ : Operand → Option Value} {m : Mem} {d : Option Tmp} {t : TypeId} {pp : String} {af : Array Edge} {g : Option (Nat × Bool)}
/-- A slice of some elements is not nil. -/
theorem ok_slice_nilF {xt yt e : TypeId} {x y : Operand} {id o n c : Nat} [Ty P xt (.slice e)] (hx : ρ x = some (.slice (some ⟨id, o, none⟩) n c)) (hy : ρ y = some (.slice none 0 0)) (hn : n ≠ 0) : OpOK P ⟨d, .binOp .eql xt x y yt, t, pp, af, g⟩ ρ m (.bool false) m := .val fun _ _ μ A w _ _ ho => by
  have h1 := ho x _ (by simp [Op.operands]) hx
  have h2 := ho y _ (by simp [Op.operands]) hy
  generalize hX : A.eval x = X at h1
  generalize hY : A.eval y = Y at h2
  cases h2
  have hr := fun a n c => run_equalIn_slice w 9999 xt e a n c (Ty.eq (P := P) (t := xt))
  cases h1
  · refine ⟨.bool false, ?_, .bool _⟩
    simp only [execOp, hX, hY, eqGuard, binOp, Op.equal, Op.maxDepth]
    split <;> simp [hr]
  · exact absurd rfl hn
end
end Go.Proofs.YtdenooeaiicheaaGreat.Av
