/- Walking in numbers of one's own: the library, part K. -/
import Derived.Test.YtdenooeaiicheaaGreatVJ
import Derived.RangeFuncNested
set_option linter.unusedVariables false
set_option linter.unusedSimpArgs false
/- Walking in numbers of one's own: a range over a function. -/
namespace Go.Proofs.YtdenooeaiicheaaGreat.Av
open Go.RowKit (Below)
/-- A value's addresses are of the first nk blocks. -/
def ltV (nk : Nat) : Nat → Value → Bool
  | 0, _ => false
  | d + 1, v => match v with
    | .pointer (some ⟨i, _, none⟩) => Nat.blt i nk
    | .slice (some ⟨i, _, none⟩) _ _ => Nat.blt i nk
    | .bool _ | .int _ _ | .string _ | .pointer none | .slice none 0 0 | .nilFunc | .nilIface | .map none => true
    | .func _ x y => x.toList.all (ltV nk d) && y.toList.all (ltV nk d)
    | .iface _ v => ltV nk d v
    | .agg x => x.toList.all (ltV nk d)
    | .tuple x => x.toList.all (ltV nk d)
    | _ => false
theorem restr_some {μ : Mu} {nk i : Nat} {L : Loc} (h : μ i = some L) (hi : Nat.blt i nk = true) : restr μ nk i = some L := by
  unfold restr; rw [if_pos (Nat.blt_eq.mp hi)]; exact h
theorem VR.lt {μ : Mu} {nk : Nat} : ∀ (d : Nat) {v y : Value}, ltV nk d v = true → VR μ v y → VR (restr μ nk) v y
  | 0, _, _, h, _ => by simp [ltV] at h
  | d + 1, v, y, h, hv => by
    have hl : ∀ (x x' : Array Value), x.toList.all (ltV nk d) = true → (∀ (i : Nat) u v, x[i]? = some u → x'[i]? = some v → VR μ u v) → ∀ (i : Nat) u v, x[i]? = some u → x'[i]? = some v → VR (restr μ nk) u v := fun x x' hx hr i u v h1 h2 =>
      VR.lt d (List.all_eq_true.1 hx u (by rw [← Array.getElem?_toList] at h1; exact List.mem_of_getElem? h1)) (hr i u v h1 h2)
    cases hv with
    | bool b => exact .bool b
    | int k n => exact .int k n
    | string s => exact .string s
    | pnil => exact .pnil
    | ptr hL => exact .ptr (restr_some hL (by simpa only [ltV] using h))
    | snil => exact .snil
    | slc hL a b c e => exact .slc (restr_some hL (by simpa only [ltV] using h)) a b c e
    | slcNil => exact .slcNil
    | slcLit => exact .slcLit
    | slcOdd => exact .slcOdd
    | slcCap => simp [ltV] at h
    | fnil => exact .fnil
    | inil => exact .inil
    | mnil => exact .mnil
    | map hL => simp [ltV] at h
    | func a b c e =>
      simp only [ltV, Bool.and_eq_true] at h
      exact .func a (hl _ _ h.1 b) c (hl _ _ h.2 e)
    | iface a => exact .iface (VR.lt d (by simpa only [ltV] using h) a)
    | agg a b => exact .agg a (hl _ _ (by simpa only [ltV] using h) b)
    | tuple a b => exact .tuple a (hl _ _ (by simpa only [ltV] using h) b)
def ltS (nk : Nat) (σ : Slots) : Bool := σ.all fun p => ltV nk 4 p.2
theorem look_mem : ∀ {σ : Slots} {t : Nat} {v : Value}, look σ t = some v → ∃ p ∈ σ, p.2 = v
  | [], _, _, h => by cases h
  | (k, u) :: l, t, v, h => by
    simp only [look] at h
    cases hb : Nat.beq k t with
    | true => rw [hb, cond_true] at h; cases h; exact ⟨_, List.mem_cons_self .., rfl⟩
    | false => rw [hb, cond_false] at h; obtain ⟨p, h1, h2⟩ := look_mem h; exact ⟨p, List.mem_cons_of_mem _ h1, h2⟩
theorem SlotsOK.lt {μ nk σ a} (hs : ltS nk σ = true) (h : SlotsOK μ σ a) : SlotsOK (restr μ nk) σ a := fun t v ht => by
  obtain ⟨p, h1, rfl⟩ := look_mem ht
  exact ⟨(h t _ ht).1, (h t _ ht).2.lt 4 (List.all_eq_true.1 hs p h1)⟩
theorem restr_to {μ0 μ : Mu} {nk : Nat} (he : Ext nk μ0 μ) : ∀ id L, restr μ0 nk id = some L → μ id = some L := fun id L h => by
  unfold restr at h
  split at h
  · rename_i hi; rw [he id hi]; exact h
  · cases h
theorem restr_ext {μ0 μ : Mu} {nk : Nat} (he : Ext nk μ0 μ) : restr μ nk = restr μ0 nk := by
  funext id
  unfold restr
  split
  · rename_i hi; exact he id hi
  · rfl
/-- Blocks of cells alone. -/
def NoMap (m : Mem) : Prop := ∀ id B, live m id = some B → B.z ≠ mapZ
def capsOf (bs : List (Nat × Nat)) : Array Value := (bs.map fun b => Value.pointer (some ⟨b.1, b.2, none⟩)).toArray
def Kcap (bs : List (Nat × Nat)) (W W' : World) : Prop := ∀ b ∈ bs, W'.cell? ⟨b.1, b.2, none⟩ = W.cell? ⟨b.1, b.2, none⟩
/-- An iterator over N things: what it has captured are cells that hold cs. -/
structure ItOK (P : Program) (gf : FuncId) (cs : List Value) (N : Nat) (encs : Fin N → Array Value) : Prop where
  ok : ∀ (bs : List (Nat × Nat)) (w : World), bs.length = cs.length → (∀ (i : Nat) b c, bs[i]? = some b → cs[i]? = some c → w.cell? ⟨b.1, b.2, none⟩ = some c) →
    SeqStopsK (fw none) 2 P gf (capsOf bs) encs (Kcap bs) (fun xs => xs = List.finRange N) (fun _ => True) N w
theorem not_cells {W : World} {r : Nat} {o : Obj} (h : W.heap[r]? = some o) (hc : o.isCells = false) {i : Nat} : W.cell? ⟨r, i, none⟩ = none := by
  unfold World.cell?
  rw [h]
  cases o <;> simp_all [Obj.isCells]
/-- State's memory where rows that are no cells are turned. -/
theorem RepM.grown {F w0 μ m W W'} {B : Nat} {row : Option Nat} (h : RepM F w0 μ m W) (hm : NoMap m) (hB : w0.heap.size ≤ B) (hg : W.grownBy W' row) (hr : ∀ r, row = some r → B ≤ r ∧ ∃ o : Obj, W.heap[r]? = some o ∧ o.isCells = false) : RepM F w0 μ m W' := by
  have hsame : ∀ k, k < W.heap.size → (∀ r, row = some r → k ≠ r) → W'.heap[k]? = W.heap[k]? := fun k hk hne => hg.block k hk fun e => hne k e.symm rfl
  refine ⟨hg.os.trans h.os, hg.tape.trans h.tape, hg.output.trans h.output, Nat.le_trans h.size hg.size, fun k hk => ?_, h.up, fun id b hb => ?_, h.excl⟩
  · have hlt : k < w0.heap.size := Nat.lt_of_not_le fun hle => hk (h.up k hle)
    rw [← h.frame k hk]
    refine hsame k (Nat.lt_of_lt_of_le hlt h.size) fun r e => ?_
    have := (hr r e).1
    omega
  · obtain ⟨L, h1, h2, h3⟩ := h.blk id b hb
    have hz := hm id b hb
    refine ⟨L, h1, ⟨h2.rw, h2.z, fun j v hv => ?_, fun hr' ht => ?_, h2.mN⟩, h3⟩
    · obtain ⟨y, k1, k2⟩ := h2.cells j v hv
      refine ⟨y, ?_, k2⟩
      rw [← k1]
      refine zcell_of_heap (hsame _ (zcell_lt k1) fun r e => ?_) _
      rintro rfl
      obtain ⟨_, o, ho, hc⟩ := hr _ e
      rw [zcell_ne hz, not_cells ho hc] at k1
      cases k1
    · have hrow := h2.row hr' ht
      refine hrow.keep (hsame _ hrow.lt fun r e => ?_)
      rintro rfl
      obtain ⟨_, o, ho, hc⟩ := hr _ e
      obtain ⟨c, e', lo, hi, hh, _⟩ := hrow.row hz
      rw [ho] at hh
      cases hh
      cases hc
/-- The ground of a round: what may change are the blocks that may be written, and what is new. -/
def Fr (μ : Mu) (m : Mem) (W : World) (k : Nat) : Prop := W.heap.size ≤ k ∨ ∃ id B L, live m id = some B ∧ μ id = some L ∧ Rw B L ∧ L.b = k
theorem RepM.ground {rd F w0 μ m W} (h : RepM F w0 μ m W) : RepM (Fr μ m W) W μ m W ∧ Reb rd F w0 [] (Fr μ m W) W [] := by
  refine ⟨⟨rfl, rfl, rfl, Nat.le_refl _, fun _ _ => rfl, ⟨fun k hk => .inl hk, h.now fun k hk => ?_⟩, fun id B hB => ?_, h.excl⟩, ⟨h.os, h.tape, h.output, h.size, fun k hk => ?_, h.frame, fun d hd => (by cases hd), .inr rfl⟩⟩
  · rcases hk with hk | ⟨id, B, L, h1, h2, h3, rfl⟩
    · exact h.up k (Nat.le_trans h.size hk)
    · obtain ⟨L', k1, _, k3⟩ := h.blk id B h1
      rw [h2] at k1
      cases k1
      exact k3 h3
  · obtain ⟨L, h1, h2, h3⟩ := h.blk id B hB
    exact ⟨L, h1, h2, fun hr => .inr ⟨id, B, L, hB, h1, hr, rfl⟩⟩
  · rcases hk with hk | ⟨id, B, L, h1, h2, h3, rfl⟩
    · exact h.up k (Nat.le_trans h.size hk)
    · obtain ⟨L', k1, _, k3⟩ := h.blk id B h1
      rw [h2] at k1
      cases k1
      exact k3 h3
theorem Fr.cells {F w0 μ m W k} {o : Obj} (h : RepM F w0 μ m W) (hm : NoMap m) (ho : W.heap[k]? = some o) (hc : o.isCells = false) : ¬ Fr μ m W k := by
  rintro (hk | ⟨id, B, L, h1, h2, h3, rfl⟩)
  · rw [Array.getElem?_eq_none hk] at ho; cases ho
  · obtain ⟨L', k1, k2, _⟩ := h.blk id B h1
    rw [h2] at k1
    cases k1
    obtain ⟨c, e', lo, hi, hh, _⟩ := (k2.row (.inl (k2.rw h3.1)) (.inl h3)).row (hm id B h1)
    rw [ho] at hh
    cases hh
    cases hc
/-- The slots of the loop's variables. -/
def putE : List Nat → List Value → Slots → Slots
  | p :: ps, v :: vs, σ => putE ps vs (put σ (some p) v)
  | _, _, σ => σ
theorem zip_arr (ps : Array Tmp) (vs : Array Value) (t : Array Value) : (ps.zip vs).foldl (fun t (p, v) => t.setIfInBounds p v) t = (ps.toList.zip vs.toList).foldl (fun t (p, v) => t.setIfInBounds p v) t := by
  rw [← Array.foldl_toList, Array.toList_zip]
end Go.Proofs.YtdenooeaiicheaaGreat.Av
