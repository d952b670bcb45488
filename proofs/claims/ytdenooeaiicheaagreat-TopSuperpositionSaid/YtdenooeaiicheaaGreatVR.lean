/- Walking in numbers of one's own: a region that is cut at a yield. -/
import Derived.Test.YtdenooeaiicheaaGreatVQ
set_option linter.unusedVariables false
set_option linter.unusedSimpArgs false
namespace Go.Proofs.YtdenooeaiicheaaGreat.Av
open Go
open Go.RowKit (Below)
/-- What a region's operations leave. -/
def Left (nt : Nat) (F : Nat → Prop) (w0 : World) (n : Nat) (μ : Mu) (l : List Deferred) (K : Slots → Mem → Prop) (a' : Act) (w' : World) : Prop := ∃ μ' σ' m', Ext n μ μ' ∧ RepS nt F w0 μ' σ' m' a' w' ∧ a'.defers = l ∧ K σ' m'
/-- Operations in any order that their edges allow. -/
def Rg (P : Program) (nt : Nat) (ops : Array Oper) (K : Slots → Mem → Prop) (σ : Slots) (m : Mem) : Prop :=
  ∀ F w0 μ a w, RepS nt F w0 μ σ m a w → wpAny P .any ops (NormalQ (Left nt F w0 m.length μ a.defers K)) ops.size (Array.replicate ops.size false) a w.drew
/-- A drawn region, in any order. -/
theorem rg_any {P : Program} {nt : Nat} {K : Slots → Mem → Prop} {σ : Slots} {m : Mem} {ops : Array Oper} (M : List Nat) (kb : Nat) (hc : chkD ops M kb = true) (hd : dstsOK nt ops = true)
    (h : RunD P ops M kb m.length K 0 ops.toList σ m []) : Rg P nt ops K σ m := by
  intro F w0 μ a w hr
  obtain ⟨T, h1, h2, h3, h4, σe, h5, h6⟩ := trace h
  have hstep : ∀ (j : Nat) (o : Oper), ops[j]? = some o → Step P ops M kb (ln T 0) j o (T j).σ (T j).m (T j).cr (T j).v (T (j + 1)).σ (T (j + 1)).m (T (j + 1)).cr := fun j o ho => by
    have := h4 j o (by rw [Array.getElem?_toList]; exact ho)
    rw [Nat.zero_add] at this
    unfold ln
    rw [h2]
    exact this
  have hl0 : ln T 0 = m.length := by unfold ln; rw [h2]
  have hlen : ops.toList.length = ops.size := by simp
  refine any_sound hstep (chkD_spec hc) (nt := nt) (F := F) (w0 := w0) (μ0 := μ) (l0 := a.defers) hd h3 (fun a' w' μ' hI => ?_) ops.size _ a _ μ (by simp) ?_ ?_
  · have hle := ln_mono hstep (Nat.zero_le ops.size) (Nat.le_refl _)
    have hmono : ∀ j, j < ops.size → ln T (j + 1) ≤ ln T ops.size := fun j hj => ln_mono hstep (by omega) (Nat.le_refl _)
    have hdom : Dom μ' (ln T ops.size) := fun id hid => by
      cases hq : μ' id with
      | none => rfl
      | some L =>
        rcases hI.dom id (by rw [hq]; simp) with h | ⟨j, k1, k2, k3⟩
        · omega
        · have := hmono j k1; omega
    have hres : restr μ' (ln T ops.size) = μ' := by
      funext id
      unfold restr
      split
      · rfl
      · exact (hdom id (by omega)).symm
    refine ⟨μ', σe, (T ops.size).m, fun id hid => hI.ext id (by omega), ⟨hI.size, by rw [hI.defers]; exact hr.defers, fun t x hx => ?_, ?_, hdom⟩, hI.defers, by rw [hlen] at h6; exact h6⟩
    · have hx := h5 t x hx
      rw [hlen] at hx
      rcases hist hstep (Nat.le_refl _) t x hx with ⟨j, o, k1, k2, k3, rfl⟩ | ⟨k1, k2⟩
      · refine ⟨?_, (hI.s1 j o t k1 k2 k3).mono (fun id L h => by unfold restr at h; split at h; exact h; cases h)⟩
        rw [hI.size]
        exact dstsOK_spec hd o (by rw [← Array.getElem?_toList] at k2; exact List.mem_of_getElem? k2) t k3
      · have := hI.s0 t x (fun i o hi ho => k1 i o hi ho) k2
        exact ⟨by rw [hI.size]; exact this.1, this.2.mono (fun id L h => by unfold restr at h; split at h; exact h; cases h)⟩
    · rcases hI.mem with ⟨hA, hM⟩ | ⟨k, hB⟩
      · have hcls : ∀ id B, live (T ops.size).m id = some B → ∃ c, c ≤ ops.size ∧ Cls T (fun i => i < ops.size) c id ∧ live (T c).m id = some B := fun id B hB => by
          have hid : id < ln T ops.size := by
            rw [live_some] at hB
            exact (List.getElem?_eq_some_iff.1 hB).1
          have early : ∀ (c j : Nat) (o' : Oper), c ≤ j → j < ops.size → ops[j]? = some o' → touch o'.op = true → j < kb := fun c j o' _ h ho ht => hA j o' h ho ht
          rcases Nat.lt_or_ge id (ln T 0) with h | h
          · exact ⟨0, Nat.zero_le _, .inl ⟨rfl, h⟩, by rw [← live_pre hstep (Nat.zero_le _) (Nat.le_refl _) (early 0) h]; exact hB⟩
          · obtain ⟨j, k1, _, k3, k4⟩ := (made hstep (Nat.le_refl _) h3).2 id h hid
            exact ⟨j + 1, by omega, .inr ⟨j, rfl, k1, k3, k4⟩, by rw [← live_pre hstep (show j + 1 ≤ ops.size by omega) (Nat.le_refl _) (early _) k4]; exact hB⟩
        refine ⟨hM.fr.os, hM.fr.tape, hM.fr.output, hM.fr.size, hM.fr.frame, hM.fr.up, fun id B hB => ?_, fun id id' B B' L L' a1 a2 hne hl hl' => ?_⟩
        · obtain ⟨c, _, b2, b3⟩ := hcls id B hB
          obtain ⟨L, k1, k2, k3⟩ := hM.blk c id B b2 b3
          exact ⟨L, k1, k2.mono (fun id L h => by unfold restr at h; split at h; exact h; cases h), k3⟩
        · obtain ⟨c, _, b2, b3⟩ := hcls id B a1
          obtain ⟨c', _, b2', b3'⟩ := hcls id' B' a2
          exact hM.excl c c' id id' B B' L L' b2 b2' b3 b3' hne hl hl'
      · obtain ⟨o, ho, ht⟩ := hB.op
        have hks : k < ops.size := (Array.getElem?_eq_some_iff.1 ho).1
        have e : (T ops.size).m = (T (k + 1)).m := same_mem hstep (show k + 1 ≤ ops.size by omega) (Nat.le_refl _) fun j o' j1 j2 j3 => by
          cases ht' : touch o'.op with
          | false => rfl
          | true => have := (hB.all j o' j3 ht').1 j2; omega
        have hrep := hB.rep
        have e2 : ln T (k + 1) = ln T ops.size := by unfold ln; rw [e]
        rw [e2, hres] at hrep
        rw [e]
        exact hrep
  · exact Nat.le_trans List.countP_le_length (by simp)
  · have hno : ∀ i, ¬ (Array.replicate ops.size false).getD i false = true := fun i h => by
      simp [Array.getD] at h
    have hdom0 : restr μ (ln T 0) = μ := by
      funext id
      unfold restr
      split
      · rfl
      · exact (hr.dom id (by omega)).symm
    refine ⟨fun i h => (hno i h).elim, fun i o h => (hno i h).elim, hr.nt, rfl, fun i o t h => (hno i h).elim, fun t x _ hx => ?_, fun id h => ?_, Ext.refl _ _, .inl ⟨fun k o h => (hno k h).elim, ?_⟩⟩
    · rw [h1] at hx
      rw [hdom0, ← hr.nt]
      exact hr.slots t x hx
    · left
      rcases Nat.lt_or_ge id (ln T 0) with h' | h'
      · exact h'
      · exact absurd (hr.dom id (by omega)) h
    · have hm := hr.mem.drew
      have hcl : ∀ c id, Cls T (fun i => (Array.replicate ops.size false).getD i false = true) c id → c = 0 := fun c id h => by
        rcases h with h | ⟨j, _, h, _⟩
        · exact h.1
        · exact (hno j h).elim
      refine ⟨⟨hm.os, hm.tape, hm.output, hm.size, hm.frame, hm.up⟩, fun c id B hc hB => ?_, fun c c' id id' B B' L L' hc hc' hB hB' => ?_⟩
      · have := hcl c id hc
        subst this
        rw [h2] at hB
        rw [hdom0]
        exact hm.blk id B hB
      · have e1 := hcl c id hc
        have e2 := hcl c' id' hc'
        subst e1 e2
        rw [h2] at hB hB'
        exact hm.excl id id' B B' L L' hB hB'
theorem oper_inQ {rd : Option Nat} {n : Nat} {P : Program} {o : Oper} {a : Act} {w : World} {K K' : Act → World → Prop} {Q Q' : Exit → Act → World → Prop} (hnd : notDefer o = true) (hK : ∀ a w, K a w → K' a w) (hQ : ∀ c a w, ¬ Q (.panic c) a w) (hlo : ¬ LetsOut Q) (h : o.wp P a w K Q) : o.wpIn (fw rd) n P a w K' Q' := by
  refine ⟨fun _ _ => trivial, ?_⟩
  rw [show (fw rd).round = rd from rfl, semAt_fw hnd]
  unfold Oper.wp at h
  generalize (execOp a.eval o).run P w = r at h
  unfold Oper.upon at h
  unfold Oper.uponIn
  split at h
  · exact hK _ _ h
  · exact hK _ _ h
  · exact hK _ _ h
  · refine ⟨fun h => (by cases h), ?_⟩
    have h2 := (callsIn_wide (n := n - 1)).2 h
    refine CallsIn.mono (F := fw rd) h2 ?_
    intro e w' he
    cases e with
    | returned v => exact hK _ _ he
    | panicked c => exact (hQ _ _ _ he).elim
    | outgrown => exact absurd he hlo
  · refine ⟨fun h => (by cases h), fun c cs _ => ?_⟩
    obtain ⟨v, w', h1, h2⟩ := h c cs
    exact ⟨v, w', hK _ _ h1, stepsIn_fw.2 h2⟩
  · exact (hQ _ _ _ h).elim
  · exact h.elim
theorem wanted_cut {o : Oper} {y y' : Nat → Option Bool} (h : ∀ j b, o.guard = some (j, b) → y j = y' j) : Region.wanted o y = Region.wanted o y' := by
  unfold Region.wanted
  cases hg : o.guard with
  | none => rfl
  | some g =>
    obtain ⟨j, b⟩ := g
    dsimp only
    rw [h j b hg]
/-- The first k operations lie all ahead of the k-th, the others behind it. -/
def chkCut (ops : Array Oper) (k : Nat) : Bool :=
  Nat.blt k ops.size &&
  (ops.toList.zipIdx.all fun (o, i) => o.after.toList.all fun e => !Region.binds .any e || Nat.blt e.on i) &&
  ((List.range k).all fun j => ops.toList.zipIdx.any fun (o, i) => Nat.blt j i && Nat.ble i k && o.after.toList.any fun e => Region.binds .any e && Nat.beq e.on j) &&
  (ops.toList.zipIdx.all fun (o, i) => Nat.ble i k || o.after.toList.any fun e => Region.binds .any e && Nat.ble k e.on) &&
  (ops.toList.zipIdx.all fun (o, i) => Nat.ble k i || (match o.guard with | none => true | some (j, _) => Nat.blt j k))
structure Cut (ops : Array Oper) (k : Nat) : Prop where
  lt : k < ops.size
  edge : ∀ (i : Nat) (o : Oper), ops[i]? = some o → ∀ e ∈ o.after.toList, Region.binds .any e = true → e.on < i
  succ : ∀ j, j < k → ∃ (i : Nat) (o : Oper), ops[i]? = some o ∧ j < i ∧ i ≤ k ∧ ∃ e ∈ o.after.toList, Region.binds .any e = true ∧ e.on = j
  pred : ∀ (i : Nat) (o : Oper), ops[i]? = some o → k < i → ∃ e ∈ o.after.toList, Region.binds .any e = true ∧ k ≤ e.on
  guard : ∀ (i : Nat) (o : Oper), ops[i]? = some o → i < k → ∀ j b, o.guard = some (j, b) → j < k
theorem zip_at {ops : Array Oper} {i : Nat} {o : Oper} (h : ops[i]? = some o) : (o, i) ∈ ops.toList.zipIdx := by
  rw [List.mem_iff_getElem?]
  exact ⟨i, by simp [List.getElem?_zipIdx, h]⟩
theorem at_zip {ops : Array Oper} {i : Nat} {o : Oper} (h : (o, i) ∈ ops.toList.zipIdx) : ops[i]? = some o := by
  rw [List.mem_iff_getElem?] at h
  obtain ⟨q, hq⟩ := h
  simp [List.getElem?_zipIdx] at hq
  obtain ⟨x, hx, rfl, rfl⟩ := hq
  exact hx
theorem chkCut_spec {ops : Array Oper} {k : Nat} (h : chkCut ops k = true) : Cut ops k := by
  unfold chkCut at h
  simp only [Bool.and_eq_true, List.all_eq_true, List.any_eq_true] at h
  obtain ⟨⟨⟨⟨h1, h2⟩, h3⟩, h4⟩, h5⟩ := h
  refine ⟨Nat.blt_eq.mp h1, fun i o ho e he hb => ?_, fun j hj => ?_, fun i o ho hi => ?_, fun i o ho hi j b hg => ?_⟩
  · have := h2 (o, i) (zip_at ho) e he
    simp [hb] at this
    exact this
  · obtain ⟨⟨o, i⟩, hm, hc⟩ := h3 j (List.mem_range.2 hj)
    simp only [Bool.and_eq_true, List.any_eq_true] at hc
    obtain ⟨⟨c1, c2⟩, e, c3, c4, c5⟩ := hc
    exact ⟨i, o, at_zip hm, Nat.blt_eq.mp c1, Nat.le_of_ble_eq_true c2, e, c3, c4, Nat.eq_of_beq_eq_true c5⟩
  · have := h4 (o, i) (zip_at ho)
    simp only [Bool.or_eq_true, List.any_eq_true, Bool.and_eq_true] at this
    rcases this with h | ⟨e, c1, c2, c3⟩
    · have := Nat.le_of_ble_eq_true h
      omega
    · exact ⟨e, c1, c2, Nat.le_of_ble_eq_true c3⟩
  · have := h5 (o, i) (zip_at ho)
    simp only [hg, Bool.or_eq_true] at this
    rcases this with h | h
    · have := Nat.le_of_ble_eq_true h
      omega
    · exact Nat.blt_eq.mp h
theorem countP_one {k i : Nat} {p q : Nat → Bool} (hi : i < k) (h : ∀ j, j < k → p j = (if j = i then false else q j) ∧ q i = true) : (List.range k).countP p + 1 = (List.range k).countP q := by
  induction k with
  | zero => omega
  | succ k ih =>
    rw [List.range_succ, List.countP_append, List.countP_append, List.countP_singleton, List.countP_singleton]
    rcases Nat.lt_or_ge i k with hik | hik
    · have := ih hik fun j hj => h j (by omega)
      have e := (h k (by omega)).1
      rw [if_neg (by omega)] at e
      rw [e]
      omega
    · obtain rfl : i = k := by omega
      have e := (h i (by omega)).1
      rw [if_pos rfl] at e
      rw [e, (h i (by omega)).2]
      have : (List.range i).countP p = (List.range i).countP q := List.countP_congr fun j hj => by
        have hj := List.mem_range.1 hj
        rw [(h j (by omega)).1, if_neg (by omega)]
      rw [this]
      simp
/-- The first k operations' marks: done. -/
def upTo (n k : Nat) : Array Bool := Array.ofFn fun i : Fin n => decide (i.val < k)
theorem cut_in {rd : Option Nat} {n : Nat} {P : Program} {ops : Array Oper} {k r : Nat} {N : Act → World → Prop} {Q : Exit → Act → World → Prop} (hc : Cut ops k) (hnd : ∀ o ∈ ops.toList, notDefer o = true)
    (hN : ∀ a w, N a w → wpAnyIn (fw rd) n P .any ops Q r (upTo ops.size k) a w) :
    ∀ (fuel : Nat) (L1 L : Array Bool) (a : Act) (w : World), L1.size = k → L.size = ops.size → (∀ i, i < k → L.getD i false = L1.getD i false) → (∀ i, k ≤ i → L.getD i false = false) →
      (∀ (i : Nat) (o : Oper), ops[i]? = some o → L.getD i false = true → ∀ e ∈ o.after.toList, Region.binds .any e = true → L.getD e.on false = true) →
      ((List.range k).countP fun i => !L1.getD i false) = fuel → wpAny P .any (ops.extract 0 k) (NormalQ N) fuel L1 a w → wpAnyIn (fw rd) n P .any ops Q (fuel + r) L a w := by
  have hlt := hc.lt
  have hdd : ∀ {L : Array Bool} {i : Nat}, L.size = ops.size → i < ops.size → L.getD i true = L.getD i false := fun {L i} hs hi => by
    simp [Array.getD, hs, hi]
  have hdd1 : ∀ {L : Array Bool} {i : Nat}, L.size = k → i < k → L.getD i true = L.getD i false := fun {L i} hs hi => by
    simp [Array.getD, hs, hi]
  have hx : ∀ {i : Nat}, i < k → (ops.extract 0 k)[i]? = ops[i]? := fun {i} hi => by
    rw [Array.getElem?_extract]
    simp only [Nat.zero_add]
    rw [if_pos (by omega)]
  intro fuel
  induction fuel with
  | zero =>
    intro L1 L a w h1 h2 h3 h4 h5 h6 h7
    have hall : ∀ i, i < k → L.getD i false = true := fun i hi => by
      have := List.countP_eq_zero.1 h6 i (List.mem_range.2 hi)
      rw [h3 i hi]
      simpa using this
    have e : L = upTo ops.size k := by
      apply Array.ext
      · simp [upTo, h2]
      · intro i hi1 hi2
        have hi : i < ops.size := by rw [← h2]; exact hi1
        have hg : L.getD i false = L[i] := by simp [Array.getD, hi1]
        have hu : (upTo ops.size k)[i] = decide (i < k) := Array.getElem_ofFn (f := fun i : Fin ops.size => decide (i.val < k)) hi2
        rw [hu, ← hg]
        rcases Nat.lt_or_ge i k with h | h
        · rw [hall i h]; simp [h]
        · rw [h4 i h]; simp; omega
    rw [Nat.zero_add, e]
    exact hN a w h7.2
  | succ fuel ih =>
    intro L1 L a w h1 h2 h3 h4 h5 h6 h7
    have hnall : ¬ ∀ i, i < k → L.getD i false = true := fun h => by
      have : ((List.range k).countP fun i => !L1.getD i false) = 0 := List.countP_eq_zero.2 fun i hi => by
        have := h i (List.mem_range.1 hi)
        rw [h3 i (List.mem_range.1 hi)] at this
        simp [this]
      omega
    rw [Nat.succ_add]
    refine ⟨fun hr => ?_, fun i hi => ?_⟩
    · refine (hnall ?_).elim
      intro i
      induction i using Nat.strongRecOn with
      | _ i ihi =>
        intro hik
        have his : i < ops.size := by omega
        cases hl : L.getD i false with
        | true => rfl
        | false =>
          have ho : ops[i]? = some ops[i] := Array.getElem?_eq_getElem his
          have : i ∈ Region.ready .any ops L := mem_ready.2 ⟨by rw [hdd h2 his]; exact hl, _, ho, fun e he hb => by
            have := hc.edge i _ ho e (by simpa using he) hb
            exact ihi e.on this (by omega)⟩
          rw [hr] at this
          cases this
    · obtain ⟨g1, o, ho, g2⟩ := mem_ready.1 hi
      have his : i < ops.size := (Array.getElem?_eq_some_iff.1 ho).1
      rw [hdd h2 his] at g1
      have hik : i < k := by
        refine Classical.byContradiction fun hge => ?_
        rcases Nat.lt_or_ge k i with hki | hki
        · obtain ⟨e, e1, e2, e3⟩ := hc.pred i o ho hki
          have := g2 e (by simpa using e1) e2
          rw [h4 _ e3] at this
          cases this
        · obtain rfl : i = k := by omega
          refine hnall fun j hj => ?_
          have key : ∀ d j, i - j = d → j < i → L.getD j false = true := fun d => by
            induction d using Nat.strongRecOn with
            | _ d ihd =>
              intro j hd hj
              obtain ⟨i', o', c1, c2, c3, e, c4, c5, c6⟩ := hc.succ j hj
              rcases Nat.lt_or_ge i' i with h | h
              · have := ihd (i - i') (by omega) i' rfl h
                rw [← c6]
                exact h5 i' o' c1 this e c4 c5
              · obtain rfl : i' = i := by omega
                rw [ho] at c1
                cases c1
                rw [← c6]
                exact g2 e (by simpa using c4) c5
          exact key _ j rfl hj
      have hi1 : i ∈ Region.ready .any (ops.extract 0 k) L1 := mem_ready.2 ⟨by rw [hdd1 h1 hik, ← h3 i hik]; exact g1, o, by rw [hx hik]; exact ho, fun e he hb => by
        have := hc.edge i o ho e (by simpa using he) hb
        rw [← h3 e.on (by omega)]
        exact g2 e he hb⟩
      have hop := h7.2 i hi1
      unfold wpOp at hop
      unfold wpOpIn
      rw [hx hik, ho] at hop
      rw [ho]
      dsimp only at hop ⊢
      have hwd : Region.wanted o (yielded (ops.extract 0 k) a.tmps) = Region.wanted o (yielded ops a.tmps) := wanted_cut fun j b hg => by
        unfold yielded
        rw [hx (hc.guard i o ho hik j b hg)]
      rw [hwd] at hop
      have hnext : ∀ a w, wpAny P .any (ops.extract 0 k) (NormalQ N) fuel (L1.setIfInBounds i true) a w → wpAnyIn (fw rd) n P .any ops Q (fuel + r) (L.setIfInBounds i true) a w := fun a w h => by
        have gs : ∀ {M : Array Bool} (j : Nat), i < M.size → (M.setIfInBounds i true).getD j false = if j = i then true else M.getD j false := fun {M} j hs => by
          by_cases hj : j = i
          · subst hj; simp [Array.getD, hs]
          · rw [if_neg hj]
            simp only [Array.getD, Array.size_setIfInBounds]
            split
            · exact Array.getElem_setIfInBounds_ne _ (Ne.symm hj)
            · rfl
        refine ih _ _ a w (by simpa using h1) (by simpa using h2) (fun j hj => ?_) (fun j hj => ?_) (fun j o' ho' hl e he hb => ?_) ?_ h
        · rw [gs j (by omega), gs j (by omega), h3 j hj]
        · rw [gs j (by omega), if_neg (by omega)]
          exact h4 j hj
        · rw [gs _ (by omega)]
          split
          · rfl
          · rw [gs j (by omega)] at hl
            by_cases hji : j = i
            · subst hji
              rw [ho] at ho'
              cases ho'
              exact g2 e (by simpa using he) hb
            · rw [if_neg hji] at hl
              exact h5 j o' ho' hl e he hb
        · have e0 : L1.getD i false = false := by rw [← h3 i hik]; exact g1
          have hlt2 : ((List.range k).countP fun j => !(L1.setIfInBounds i true).getD j false) + 1 = (List.range k).countP fun j => !L1.getD j false :=
            countP_one hik fun j hj => ⟨by rw [gs j (by omega)]; split <;> simp, by simp [e0]⟩
          omega
      split at hop
      · rename_i hw
        rw [if_pos hw]
        rcases hop with h | h
        · exact oper_inQ (hnd o (by rw [← Array.getElem?_toList] at ho; exact List.mem_of_getElem? ho)) hnext (fun _ _ _ h => h) (fun ⟨_, _, h⟩ => h) h
        · obtain ⟨_, _, _, h⟩ := h
          exact h.elim
      · rename_i hw
        rw [if_neg hw]
        exact ⟨fun _ _ => trivial, hnext _ _ hop⟩
end Go.Proofs.YtdenooeaiicheaaGreat.Av
