/- Walking in numbers of one's own: the library, part K. -/
import Derived.Test.YtjofcjogbopkjaaGreatVJ
import Derived.RangeFuncNested
set_option linter.unusedVariables false
set_option linter.unusedSimpArgs false
/- Walking in numbers of one's own: a range over a function. -/
namespace Go.Proofs.YtjofcjogbopkjaaGreat.Av
open Go.RowKit (Below)
/-- A value's addresses are of the first nk blocks. -/
def ltV (nk : Nat) : Nat → Value → Bool
  | 0, _ => false
  | d + 1, v => match v with
    | .pointer (some ⟨i, _, none⟩) => Nat.blt i nk
    | .slice (some ⟨i, _, none⟩) _ _ => Nat.blt i nk
    | .bool _ | .int _ _ | .string _ | .pointer none | .slice none 0 0 | .nilFunc | .nilIface | .map none => true
    | .func _ x y => x.toList.all (ltV nk d) && y.toList.all (ltV nk d)
    | .iface _ v => ltV nk d v
    | .agg x => x.toList.all (ltV nk d)
    | .tuple x => x.toList.all (ltV nk d)
    | _ => false
theorem restr_some {μ : Mu} {nk i : Nat} {L : Loc} (h : μ i = some L) (hi : Nat.blt i nk = true) : restr μ nk i = some L := by
  unfold restr; rw [if_pos (Nat.blt_eq.mp hi)]; exact h
theorem VR.lt {μ : Mu} {nk : Nat} : ∀ (d : Nat) {v y : Value}, ltV nk d v = true → VR μ v y → VR (restr μ nk) v y
  | 0, _, _, h, _ => by simp [ltV] at h
  | d + 1, v, y, h, hv => by
    have hl : ∀ (x x' : Array Value), x.toList.all (ltV nk d) = true → (∀ (i : Nat) u v, x[i]? = some u → x'[i]? = some v → VR μ u v) → ∀ (i : Nat) u v, x[i]? = some u → x'[i]? = some v → VR (restr μ nk) u v := fun x x' hx hr i u v h1 h2 =>
      VR.lt d (List.all_eq_true.1 hx u (by rw [← Array.getElem?_toList] at h1; exact List.mem_of_getElem? h1)) (hr i u v h1 h2)
    cases hv with
    | bool b => exact .bool b
    | int k n => exact .int k n
    | string s => exact .string s
    | pnil => exact .pnil
    | ptr hL => exact .ptr (restr_some hL (by simpa only [ltV] using h))
    | snil => exact .snil
    | slc hL a b c e => exact .slc (restr_some hL (by simpa only [ltV] using h)) a b c e
    | slcNil => exact .slcNil
    | slcLit => exact .slcLit
    | fnil => exact .fnil
    | inil => exact .inil
    | mnil => exact .mnil
    | map hL => simp [ltV] at h
    | func a b c e =>
      simp only [ltV, Bool.and_eq_true] at h
      exact .func a (hl _ _ h.1 b) c (hl _ _ h.2 e)
    | iface a => exact .iface (VR.lt d (by simpa only [ltV] using h) a)
    | agg a b => exact .agg a (hl _ _ (by simpa only [ltV] using h) b)
    | tuple a b => exact .tuple a (hl _ _ (by simpa only [ltV] using h) b)
def ltS (nk : Nat) (σ : Slots) : Bool := σ.all fun p => ltV nk 4 p.2
theorem look_mem : ∀ {σ : Slots} {t : Nat} {v : Value}, look σ t = some v → ∃ p ∈ σ, p.2 = v
  | [], _, _, h => by cases h
  | (k, u) :: l, t, v, h => by
    simp only [look] at h
    cases hb : Nat.beq k t with
    | true => rw [hb, cond_true] at h; cases h; exact ⟨_, List.mem_cons_self .., rfl⟩
    | false => rw [hb, cond_false] at h; obtain ⟨p, h1, h2⟩ := look_mem h; exact ⟨p, List.mem_cons_of_mem _ h1, h2⟩
theorem SlotsOK.lt {μ nk σ a} (hs : ltS nk σ = true) (h : SlotsOK μ σ a) : SlotsOK (restr μ nk) σ a := fun t v ht => by
  obtain ⟨p, h1, rfl⟩ := look_mem ht
  exact ⟨(h t _ ht).1, (h t _ ht).2.lt 4 (List.all_eq_true.1 hs p h1)⟩
theorem restr_to {μ0 μ : Mu} {nk : Nat} (he : Ext nk μ0 μ) : ∀ id L, restr μ0 nk id = some L → μ id = some L := fun id L h => by
  unfold restr at h
  split at h
  · rename_i hi; rw [he id hi]; exact h
  · cases h
theorem restr_ext {μ0 μ : Mu} {nk : Nat} (he : Ext nk μ0 μ) : restr μ nk = restr μ0 nk := by
  funext id
  unfold restr
  split
  · rename_i hi; exact he id hi
  · rfl
/-- Blocks of cells alone. -/
def NoMap (m : Mem) : Prop := ∀ id B, live m id = some B → B.z ≠ mapZ
def capsOf (bs : List (Nat × Nat)) : Array Value := (bs.map fun b => Value.pointer (some ⟨b.1, b.2, none⟩)).toArray
def Kcap (bs : List (Nat × Nat)) (W W' : World) : Prop := ∀ b ∈ bs, W'.cell? ⟨b.1, b.2, none⟩ = W.cell? ⟨b.1, b.2, none⟩
/-- An iterator over N things: what it has captured are cells that hold cs. -/
structure ItOK (P : Program) (gf : FuncId) (cs : List Value) (N : Nat) (encs : Fin N → Array Value) : Prop where
  ok : ∀ (bs : List (Nat × Nat)) (w : World), bs.length = cs.length → (∀ (i : Nat) b c, bs[i]? = some b → cs[i]? = some c → w.cell? ⟨b.1, b.2, none⟩ = some c) →
    SeqStopsK (fw none) 2 P gf (capsOf bs) encs (Kcap bs) (fun xs => xs = List.finRange N) (fun _ => True) N w
theorem not_cells {W : World} {r : Nat} {o : Obj} (h : W.heap[r]? = some o) (hc : o.isCells = false) {i : Nat} : W.cell? ⟨r, i, none⟩ = none := by
  unfold World.cell?
  rw [h]
  cases o <;> simp_all [Obj.isCells]
/-- State's memory where rows that are no cells are turned. -/
theorem RepM.grown {F w0 μ m W W'} {B : Nat} {row : Option Nat} (h : RepM F w0 μ m W) (hm : NoMap m) (hB : w0.heap.size ≤ B) (hg : W.grownBy W' row) (hr : ∀ r, row = some r → B ≤ r ∧ ∃ o : Obj, W.heap[r]? = some o ∧ o.isCells = false) : RepM F w0 μ m W' := by
  have hsame : ∀ k, k < W.heap.size → (∀ r, row = some r → k ≠ r) → W'.heap[k]? = W.heap[k]? := fun k hk hne => hg.block k hk fun e => hne k e.symm rfl
  refine ⟨hg.os.trans h.os, hg.tape.trans h.tape, hg.output.trans h.output, Nat.le_trans h.size hg.size, fun k hk => ?_, h.up, fun id b hb => ?_, h.excl⟩
  · have hlt : k < w0.heap.size := Nat.lt_of_not_le fun hle => hk (h.up k hle)
    rw [← h.frame k hk]
    refine hsame k (Nat.lt_of_lt_of_le hlt h.size) fun r e => ?_
    have := (hr r e).1
    omega
  · obtain ⟨L, h1, h2, h3⟩ := h.blk id b hb
    have hz := hm id b hb
    refine ⟨L, h1, ⟨h2.rw, h2.z, fun j v hv => ?_, fun hr' ht => ?_, h2.mN⟩, h3⟩
    · obtain ⟨y, k1, k2⟩ := h2.cells j v hv
      refine ⟨y, ?_, k2⟩
      rw [← k1]
      refine zcell_of_heap (hsame _ (zcell_lt k1) fun r e => ?_) _
      rintro rfl
      obtain ⟨_, o, ho, hc⟩ := hr _ e
      rw [zcell_ne hz, not_cells ho hc] at k1
      cases k1
    · have hrow := h2.row hr' ht
      refine hrow.keep (hsame _ hrow.lt fun r e => ?_)
      rintro rfl
      obtain ⟨_, o, ho, hc⟩ := hr _ e
      obtain ⟨c, e', lo, hi, hh, _⟩ := hrow.row hz
      rw [ho] at hh
      cases hh
      cases hc
/-- The ground of a round: what may change are the blocks that may be written, and what is new. -/
def Fr (μ : Mu) (m : Mem) (W : World) (k : Nat) : Prop := W.heap.size ≤ k ∨ ∃ id B L, live m id = some B ∧ μ id = some L ∧ Rw B L ∧ L.b = k
theorem RepM.ground {rd F w0 μ m W} (h : RepM F w0 μ m W) : RepM (Fr μ m W) W μ m W ∧ Reb rd F w0 [] (Fr μ m W) W [] := by
  refine ⟨⟨rfl, rfl, rfl, Nat.le_refl _, fun _ _ => rfl, fun k hk => .inl hk, fun id B hB => ?_, h.excl⟩, ⟨h.os, h.tape, h.output, h.size, fun k hk => ?_, h.frame, fun d hd => (by cases hd), .inr rfl⟩⟩
  · obtain ⟨L, h1, h2, h3⟩ := h.blk id B hB
    exact ⟨L, h1, h2, fun hr => .inr ⟨id, B, L, hB, h1, hr, rfl⟩⟩
  · rcases hk with hk | ⟨id, B, L, h1, h2, h3, rfl⟩
    · exact h.up k (Nat.le_trans h.size hk)
    · obtain ⟨L', k1, _, k3⟩ := h.blk id B h1
      rw [h2] at k1
      cases k1
      exact k3 h3
theorem Fr.cells {F w0 μ m W k} {o : Obj} (h : RepM F w0 μ m W) (hm : NoMap m) (ho : W.heap[k]? = some o) (hc : o.isCells = false) : ¬ Fr μ m W k := by
  rintro (hk | ⟨id, B, L, h1, h2, h3, rfl⟩)
  · rw [Array.getElem?_eq_none hk] at ho; cases ho
  · obtain ⟨L', k1, k2, _⟩ := h.blk id B h1
    rw [h2] at k1
    cases k1
    obtain ⟨c, e', lo, hi, hh, _⟩ := (k2.row (.inl (k2.rw h3.1)) (.inl h3)).row (hm id B h1)
    rw [ho] at hh
    cases hh
    cases hc
theorem cap_cell {F w0 μ m W} (h : RepM F w0 μ m W) (hm : NoMap m) {id : Nat} {L : Loc} {c : Value} {r : Bool} {z : Nat} (hl : live m id = some ⟨[c], r, z⟩) (hL : μ id = some L) (hc : plain 3 c = true) : W.cell? ⟨L.b, L.o, none⟩ = some c := by
  obtain ⟨L', k1, k2, _⟩ := h.blk id _ hl
  rw [hL] at k1
  cases k1
  obtain ⟨y, h1, h2⟩ := k2.cells 0 c rfl
  rw [zcell_ne (hm id _ hl), plain_eq 3 c y hc h2] at h1
  exact h1
/-- The slots of the loop's variables. -/
def putE : List Nat → List Value → Slots → Slots
  | p :: ps, v :: vs, σ => putE ps vs (put σ (some p) v)
  | _, _, σ => σ
theorem putE_ok {μ : Mu} : ∀ (ps : List Nat) (vs : List Value) (σ : Slots) (a : Act), (∀ p ∈ ps, p < a.tmps.size) → (∀ v ∈ vs, plain 4 v = true) → SlotsOK μ σ a → SlotsOK μ (putE ps vs σ) { tmps := (ps.zip vs).foldl (fun t (p, v) => t.setIfInBounds p v) a.tmps, defers := [] } ∧ ((ps.zip vs).foldl (fun t (p, v) => t.setIfInBounds p v) a.tmps).size = a.tmps.size
  | [], vs, σ, a, _, _, h => ⟨h, rfl⟩
  | p :: ps, [], σ, a, _, _, h => ⟨h, rfl⟩
  | p :: ps, v :: vs, σ, a, hp, hv, h => by
    have hput : SlotsOK μ (put σ (some p) v) (a.put (some p) v) := h.put (plain_refl μ 4 v (hv v (List.mem_cons_self ..))) fun t e => by cases e; exact hp p (List.mem_cons_self ..)
    have := putE_ok ps vs (put σ (some p) v) (a.put (some p) v) (fun q hq => by rw [Act.size_put]; exact hp q (List.mem_cons_of_mem _ hq)) (fun u hu => hv u (List.mem_cons_of_mem _ hu)) hput
    simp only [Act.put] at this
    refine ⟨this.1, ?_⟩
    have h2 := this.2
    simp only [Array.size_setIfInBounds] at h2
    exact h2
theorem zip_arr (ps : Array Tmp) (vs : Array Value) (t : Array Value) : (ps.zip vs).foldl (fun t (p, v) => t.setIfInBounds p v) t = (ps.toList.zip vs.toList).foldl (fun t (p, v) => t.setIfInBounds p v) t := by
  rw [← Array.foldl_toList, Array.toList_zip]
/-- **A range over a function whose iterator is over N things.** -/
theorem aw_rangeFunc {P : Program} {nt n0 : Nat} {Q : Exit → Slots → Mem → Prop} {σ : Slots} {gf : FuncId} [FnI P gf] {t : Nat} {ps : Array Tmp} {assign body : Code} {cs : List Value} {N : Nat} {encs : Fin N → Array Value}
    (nk : Nat) (cid : List Nat) (B : List (Fin N) → Mem) (R : List (Fin N) → Prop) (Sx : Fin N → Slots) (X : Exit → Mem → Prop)
    (hit : ItOK P gf cs N encs) (hg : look σ t = some (.func (.func gf) #[] (cid.map fun i => Value.pointer (some ⟨i, 0, none⟩)).toArray)) (hR : R [])
    (hn : n0 ≤ nk) (hcs : ∀ c ∈ cs, plain 3 c = true) (hlen : cid.length = cs.length) (hcid : ∀ i ∈ cid, i < nk) (hσ : ltS nk σ = true) (hSx : ∀ x, ltS nk (Sx x) = true)
    (hra : noRF assign = true) (hrb : noRF body = true) (hps : ∀ p ∈ ps.toList, p < nt) (henc : ∀ x, (encs x).size = ps.size ∧ ∀ v ∈ (encs x).toList, plain 4 v = true)
    (hB : ∀ pre, nk ≤ (B pre).length ∧ NoMap (B pre) ∧ ∀ (i : Nat) id c, cid[i]? = some id → cs[i]? = some c → ∃ r z, live (B pre) id = some ⟨[c], r, z⟩)
    (hX : ∀ e m', X e m' → NoMap m')
    (hassign : ∀ pre x, AW P nt nk assign (fun e σ' m' => e = .normal ∧ Fits nk (Sx x) (B pre) σ' m') (putE ps.toList (encs x).toList σ) (B pre))
    (hbody : ∀ pre x, R pre → pre.length < N → AW P nt nk body (fun e σ' m' => (e = .normal ∧ Fits nk [] (B (pre ++ [x])) σ' m' ∧ R (pre ++ [x])) ∨ ((e = .ret ∨ ∃ id, e = .exit id) ∧ X e m')) (Sx x) (B pre))
    (hdone : R (List.finRange N) → Q .normal σ (B (List.finRange N))) (hstop : ∀ e m', X e m' → Q e σ m') :
    AW P nt n0 (.rangeFunc (.tmp t) ps assign body) Q σ (B []) := by
  constructor
  intro rd F w0 μ0 a w hd hr
  have hrd : rd = none := hd.resolve_right (by simp [noRF])
  -- the iterator, as it stands
  have hve := ev_ok hr.slots (x := .tmp t) hg
  obtain ⟨bs, hbs⟩ : ∃ bs : List (Nat × Nat), cid.map (fun id => match μ0 id with | some L => (L.b, L.o) | none => (0, 0)) = bs := ⟨_, rfl⟩
  have hloc : ∀ (i : Nat) id, cid[i]? = some id → ∃ L, μ0 id = some L ∧ bs[i]? = some (L.b, L.o) := fun i id hi => by
    have hc : i < cs.length := by rw [← hlen]; exact (List.getElem?_eq_some_iff.1 hi).1
    obtain ⟨r, z, hl⟩ := (hB []).2.2 i id _ hi (List.getElem?_eq_getElem hc)
    obtain ⟨L, k1, _⟩ := hr.mem.blk id _ hl
    refine ⟨L, k1, ?_⟩
    rw [← hbs, List.getElem?_map, hi, Option.map_some, k1]
  have hev : a.eval (.tmp t) = .func (.func gf) #[] (capsOf bs) := by
    generalize a.eval (.tmp t) = v at hve
    cases hve with
    | func s1 r1 s2 r2 =>
      rename_i x' y'
      have hx : x' = #[] := Array.eq_empty_of_size_eq_zero (by simpa using s1.symm)
      subst hx
      congr 1
      apply Array.ext
      · rw [← s2]
        simp [capsOf, ← hbs]
      · intro i h1 h2
        have hi : i < cid.length := by simpa using (show i < ((cid.map fun i => Value.pointer (some ⟨i, 0, none⟩)).toArray).size by rw [s2]; exact h1)
        obtain ⟨L, k1, k2⟩ := hloc i cid[i] (List.getElem?_eq_getElem hi)
        have := r2 i (.pointer (some ⟨cid[i], 0, none⟩)) y'[i] (by simp [hi]) (Array.getElem?_eq_getElem h1)
        generalize y'[i] = u at this
        cases this with
        | ptr hL =>
          rw [k1] at hL
          cases hL
          have h3 : bs[i]? = some (L.b, L.o) := k2
          simp only [capsOf, List.getElem_toArray, List.getElem_map]
          rw [show bs[i]'(by simpa [capsOf] using h2) = (L.b, L.o) from (List.getElem?_eq_some_iff.1 h3).2]
          simp
  have hbl : bs.length = cs.length := by rw [← hbs, List.length_map, hlen]
  have hcells : ∀ {F' w' μ W pre}, Ext nk μ0 μ → RepM F' w' μ (B pre) W → ∀ (i : Nat) b c, bs[i]? = some b → cs[i]? = some c → W.cell? ⟨b.1, b.2, none⟩ = some c := fun {F' w' μ W pre} he hm i b c hb hc => by
    have hi : i < cid.length := by rw [hlen]; exact (List.getElem?_eq_some_iff.1 hc).1
    obtain ⟨L, k1, k2⟩ := hloc i cid[i] (List.getElem?_eq_getElem hi)
    rw [hb] at k2
    cases k2
    obtain ⟨r, z, hl⟩ := (hB pre).2.2 i cid[i] c (List.getElem?_eq_getElem hi) hc
    exact cap_cell hm (hB pre).2.1 hl (by rw [he _ (hcid _ (List.getElem_mem hi))]; exact k1) (hcs c (List.mem_of_getElem? hc))
  have hseq : SeqStopsK (fw rd) 2 P gf (capsOf bs) encs (Kcap bs) (fun xs => xs = List.finRange N) (fun _ => True) N w := hit.ok bs w hbl (hcells (Ext.refl _ _) hr.mem)
  -- what holds between two rounds
  let I : List (Fin N) → World → Prop := fun pre W => ∃ μ, Ext nk μ0 μ ∧ Dom μ (B pre).length ∧ RepM F w0 μ (B pre) W ∧ R pre
  let Ix : Code → List (Fin N) → World → Prop := fun c _ W => ∃ e m' μ, ((e = .ret ∧ c = .ret) ∨ ∃ id, e = .exit id ∧ c = .exit id) ∧ X e m' ∧ Ext nk μ0 μ ∧ Dom μ m'.length ∧ RepM F w0 μ m' W
  let Ax : Fin N → Act → World → Prop := fun x a' _ => a'.tmps.size = nt ∧ a'.defers = [] ∧ SlotsOK (restr μ0 nk) (Sx x) a'
  have hI : OwnFrom w.heap.size I := fun pre W W' row ⟨μ, h1, h2, h3, h4⟩ hg hrow => ⟨μ, h1, h2, h3.grown (hB pre).2.1 hr.mem.size hg hrow, h4⟩
  have hIx : ∀ c, OwnFrom w.heap.size (Ix c) := fun c pre W W' row ⟨e, m', μ, h0, h1, h2, h3, h4⟩ hg hrow => ⟨e, m', μ, h0, h1, h2, h3, h4.grown (hX e m' h1) hr.mem.size hg hrow⟩
  have h0 : I [] w := ⟨μ0, Ext.refl _ _, hr.dom, hr.mem, hR⟩
  -- what a step of a round keeps
  have keeps : ∀ {rd' μ pre W μ' m' W' F' w0' l'}, RepM F w0 μ (B pre) W → Reb rd' (Fr μ (B pre) W) W [] F' w0' l' → RepM F' w0' μ' m' W' → KeepsFrom w.heap.size W W' ∧ RepM F w0 μ' m' W' := fun {rd' μ pre W μ' m' W' F' w0' l'} hm hreb hm' => by
    obtain ⟨hg1, hg2⟩ := hm.ground (rd := rd')
    have hm2 := hm'.unreb hreb hg1.up
    refine ⟨⟨hm2.size, fun k o _ ho hc => ?_⟩, hm2.unreb hg2 hm.up⟩
    rw [hm2.frame k (Fr.cells hm (hB pre).2.1 ho hc)]
    exact ho
  have hkc : ∀ {μ pre W F1 w1 μ' pre' W' F2 w2}, Ext nk μ0 μ → RepM F1 w1 μ (B pre) W → Ext nk μ0 μ' → RepM F2 w2 μ' (B pre') W' → Kcap bs W W' := fun {μ pre W F1 w1 μ' pre' W' F2 w2} e1 h1 e2 h2 b hb => by
    obtain ⟨i, hi⟩ := List.mem_iff_getElem?.1 hb
    have hc : i < cs.length := by rw [← hbl]; exact (List.getElem?_eq_some_iff.1 hi).1
    rw [hcells e1 h1 i b _ hi (List.getElem?_eq_getElem hc), hcells e2 h2 i b _ hi (List.getElem?_eq_getElem hc)]
  have hsl : ∀ {μ}, Ext nk μ0 μ → SlotsOK μ σ a := fun {μ} he => (hr.slots.lt hσ).mono (restr_to he)
  have has : ∀ (l : Nat) (pre : List (Fin N)) (x : Fin N) (W : World) (K : Act → World → Prop), I pre W → (∀ a' W', KeepsFrom w.heap.size W W' → Kcap bs W W' → I pre W' → Ax x a' W' → K a' W') →
      assign.wpIn (fw (some l)) 1 P (Exit.then K (fun _ _ _ => False)) { tmps := (ps.zip (encs x)).foldl (fun t (p, v) => t.setIfInBounds p v) a.tmps, defers := [] } W := fun l pre x W K ⟨μ, e1, e2, e3, e4⟩ hK => by
    have hg1 := (e3.ground (rd := some l)).1
    have hp := putE_ok (μ := μ) ps.toList (encs x).toList σ a (fun p hp => by rw [hr.nt]; exact hps p hp) (henc x).2 (hsl e1)
    rw [← zip_arr] at hp
    refine wpIn_n (wpIn_mono ((hassign pre x).wp (some l) (Fr μ (B pre) W) W μ _ W (.inr hra) ⟨hp.2.trans hr.nt, DefOK.nil, hp.1, hg1, e2⟩) ?_)
    rintro e a' W' ⟨F', w0', μ', σ', m', hreb, hext, hrs, rfl, hfit⟩
    obtain ⟨g, hren, hslots⟩ := hfit.ex
    obtain ⟨k1, k2⟩ := keeps e3 hreb hrs.mem
    have hmr := k2.renum hren
    have hext2 : Ext nk μ0 (fun i => μ' (g i)) := e1.trans (hext.trans hren.ext)
    refine hK a' W' k1 (hkc e1 e3 hext2 hmr) ⟨_, hext2, hren.dom hrs.dom, hmr, e4⟩ ⟨hrs.nt, ?_, ?_⟩
    · rcases hreb.rnd with h | h
      · cases h
      · exact h
    · have hs2 : SlotsOK (fun i => μ' (g i)) (Sx x) a' := fun t v ht => by
        obtain ⟨u, h1, h2⟩ := hslots t v ht
        exact ⟨(hrs.slots t u h1).1, (h2.vr (hrs.slots t u h1).2).ren⟩
      have := hs2.lt (hSx x)
      rwa [restr_ext hext2] at this
  have hbd : ∀ (l : Nat) (pre : List (Fin N)) (x : Fin N) (a' : Act) (W : World), I pre W → Ax x a' W → pre.length < N → body.wpIn (fw (some l)) 1 P (ownPostG w.heap.size (Kcap bs) I Ix (pre ++ [x]) W) a' W := fun l pre x a' W ⟨μ, e1, e2, e3, e4⟩ ⟨x1, x2, x3⟩ hlt => by
    have hg1 := (e3.ground (rd := some l)).1
    refine wpIn_n (wpIn_mono ((hbody pre x e4 hlt).wp (some l) (Fr μ (B pre) W) W μ a' W (.inr hrb) ⟨x1, by rw [x2]; exact DefOK.nil, x3.mono (restr_to e1), hg1, e2⟩) ?_)
    rintro e a'' W' ⟨F', w0', μ', σ', m', hreb, hext, hrs, hq⟩
    rw [x2] at hreb
    obtain ⟨k1, k2⟩ := keeps e3 hreb hrs.mem
    rcases hq with ⟨rfl, hfit, hR'⟩ | ⟨he, hx⟩
    · obtain ⟨g, hren, _⟩ := hfit.ex
      have hmr := k2.renum hren
      have hext2 : Ext nk μ0 (fun i => μ' (g i)) := e1.trans (hext.trans hren.ext)
      exact ⟨k1, hkc e1 e3 hext2 hmr, _, hext2, hren.dom hrs.dom, hmr, hR'⟩
    · rcases he with rfl | ⟨id, rfl⟩
      · exact ⟨k1, .ret, m', μ', .inl ⟨rfl, rfl⟩, hx, e1.trans hext, hrs.dom, k2⟩
      · exact ⟨k1, .exit id, m', μ', .inr ⟨id, rfl, rfl⟩, hx, e1.trans hext, hrs.dom, k2⟩
  -- the state behind the loop
  have behind : ∀ {D : Nat} {W : World} {μ m' e}, w.heap.size ≤ D → W.heap[D]? = some (.deferred (some [])) → Ext nk μ0 μ → Dom μ m'.length → NoMap m' → RepM F w0 μ m' W → Q e σ m' →
      Pt rd nt n0 F w0 μ0 a.defers Q e { a with defers := { target := .collected D, args := #[] } :: a.defers } W := fun {D W μ m' e} hD hH e1 e2 e3 e4 hq => by
    have hFD : F D := hr.mem.up D (Nat.le_trans hr.mem.size hD)
    have hDlt : D < W.heap.size := (Array.getElem?_eq_some_iff.1 hH).1
    refine ⟨fun k => F k ∧ k ≠ D, W, μ, σ, m', ⟨e4.os, e4.tape, e4.output, e4.size, fun k hk => hk.1, e4.frame, fun d hd => ?_, .inl hrd⟩, fun id hid => e1 id (by omega), ⟨hr.nt, ⟨fun d hd => ?_, ?_⟩, hsl e1, ?_, e2⟩, hq⟩
    · rcases List.mem_cons.1 hd with rfl | hd
      · exact .inr ⟨D, rfl, hFD⟩
      · exact .inl hd
    · rcases List.mem_cons.1 hd with rfl | hd
      · exact ⟨D, rfl, fun h => h.2 rfl, hH⟩
      · obtain ⟨D', h1, h2, h3⟩ := hr.defers.all d hd
        exact ⟨D', h1, fun h => h2 h.1, (e4.frame D' h2).trans h3⟩
    · refine List.nodup_cons.2 ⟨fun hd => ?_, hr.defers.nd⟩
      obtain ⟨D', h1, h2, _⟩ := hr.defers.all _ hd
      cases h1
      exact h2 hFD
    · refine ⟨rfl, rfl, rfl, Nat.le_refl _, fun _ _ => rfl, fun k hk => ⟨e4.up k (Nat.le_trans e4.size hk), by omega⟩, fun id b hb => ?_, e4.excl⟩
      obtain ⟨L, h1, h2, h3⟩ := e4.blk id b hb
      refine ⟨L, h1, h2, fun hrw => ⟨h3 hrw, ?_⟩⟩
      rintro rfl
      obtain ⟨c, e', lo, hi, hh, _⟩ := (h2.row (.inl (h2.rw hrw.1)) (.inl hrw)).row (e3 id b hb)
      rw [hH] at hh
      cases hh
  subst hrd
  refine wpIn_rangeFunc_ownH (F := fw none) (n := 3) rfl (by decide) (gf := gf) (lb := capsOf bs) hev trivial (fun args w => run_callFunc args w) (Kp := Kcap bs) hseq (fun h k b hb => (k b hb).trans (h b hb)) (fun W l o o' _ hl ho _ b hb => ?_) (Below.refl _ _) (fun x => (henc x).1) I Ix hI hIx h0 Ax (fun x a' _ W W' row h _ _ => h)
    (fun l pre x W K hIp hK => has l pre x W K hIp hK) (fun l pre x a' W _ _ hIp hA hlt => hbd l pre x a' W hIp hA hlt) (fun D xs W hD hS ⟨μ, e1, e2, e3, e4⟩ hH => ?_) (fun D c pre W hD _ ⟨e, m', μ, hc, hx, e1, e2, e3⟩ hH => ?_)
  · by_cases hbl' : b.1 = l
    · exfalso
      obtain ⟨i, hi⟩ := List.mem_iff_getElem?.1 hb
      have hc : i < cs.length := by rw [← hbl]; exact (List.getElem?_eq_some_iff.1 hi).1
      have := World.block_lt_of_cell? _ _ (hcells (Ext.refl _ _) hr.mem i b _ hi (List.getElem?_eq_getElem hc))
      dsimp only at this
      omega
    · unfold World.cell?
      rw [World.putObj_heap_other hbl']
  · subst hS
    exact behind hD hH e1 e2 (hB _).2.1 e3 (hdone e4)
  · rcases hc with ⟨rfl, rfl⟩ | ⟨id, rfl, rfl⟩
    · exact wpIn_ret (behind hD hH e1 e2 (hX _ _ hx) e3 (hstop _ _ hx))
    · exact wpIn_exit (behind hD hH e1 e2 (hX _ _ hx) e3 (hstop _ _ hx))
end Go.Proofs.YtjofcjogbopkjaaGreat.Av
