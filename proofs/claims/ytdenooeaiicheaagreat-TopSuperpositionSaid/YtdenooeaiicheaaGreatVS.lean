/- Walking in numbers of one's own: an iterator. -/
import Derived.Test.YtdenooeaiicheaaGreatVR
set_option linter.unusedVariables false
set_option linter.unusedSimpArgs false
namespace Go.Proofs.YtdenooeaiicheaaGreat.Av
open Go
open Go.RowKit (Below)
/-- The blocks, only to be read. -/
def rdo (m : Mem) : Mem := m.map fun b => b.map fun B => { B with rw := false }
theorem live_rdo {m : Mem} {id : Nat} {B : Blk} (h : live (rdo m) id = some B) : ∃ B0, live m id = some B0 ∧ B = { B0 with rw := false } := by
  rw [live_some] at h
  unfold rdo at h
  rw [List.getElem?_map] at h
  cases hm : m[id]? with
  | none => rw [hm] at h; cases h
  | some b =>
    rw [hm] at h
    cases b with
    | none => simp at h
    | some B0 => simp at h; exact ⟨B0, live_some.2 hm, h.symm⟩
theorem rdo_len (m : Mem) : (rdo m).length = m.length := by unfold rdo; simp
theorem RepO.rep {μ : Mu} {mc : Mem} {W : World} (h : RepO μ mc W) : RepM (fun k => W.heap.size ≤ k) W μ (rdo mc) W := by
  refine ⟨rfl, rfl, rfl, Nat.le_refl _, fun _ _ => rfl, ⟨fun k hk => hk, ⟨fun g hg => by simp [ambs] at hg⟩⟩, fun id B hB => ?_, fun id id' B B' L L' h1 h2 hne l1 l2 hr => ?_⟩
  · obtain ⟨B0, h1, rfl⟩ := live_rdo hB
    obtain ⟨L, k1, k2⟩ := h id B0 h1
    refine ⟨L, k1, ⟨fun h => (by cases h), k2.z, k2.cells, fun hr ht => k2.row hr (.inr (by rcases ht with ht | ht; cases ht.1; exact ht)), k2.mN⟩, fun h => (by cases h.1)⟩
  · obtain ⟨B0, _, rfl⟩ := live_rdo h1
    cases hr.1
section
variable {P : Program} {nt : Nat} {μ : Mu} {mc : Mem} {N : Nat} {encs : Fin N → List Value} {l : Nat} {J Jx : List (ItX μ N encs) → World → Prop}
/-- A state of an iterator's walk: what has been yielded; whether the range goes on. -/
structure ISt (nt : Nat) (μ : Mu) (mc : Mem) {N : Nat} {encs : Fin N → List Value} (J Jx : List (ItX μ N encs) → World → Prop) (σ : Slots) (m : Mem) (g : Bool) (xs : List (ItX μ N encs)) (a : Act) (W : World) : Prop where
  ex : ∃ W0 μ', (g = true → J xs W0 ∧ mc.length ≤ m.length ∧ RepO μ mc W0 ∧ Ext mc.length μ μ') ∧ (g = false → Jx xs W0) ∧ RepS nt (fun k => W0.heap.size ≤ k) W0 μ' σ m a W ∧ a.defers = []
def IPt (nt : Nat) (μ : Mu) (mc : Mem) {N : Nat} {encs : Fin N → List Value} (J Jx : List (ItX μ N encs) → World → Prop) (Q : Exit → Slots → Mem → Bool → List (ItX μ N encs) → Prop) (e : Exit) (a : Act) (W : World) : Prop :=
  ∃ σ m g xs, ISt nt μ mc J Jx σ m g xs a W ∧ Q e σ m g xs
/-- Code of an iterator, from a state on. -/
structure IW (P : Program) (nt : Nat) (μ : Mu) (mc : Mem) {N : Nat} {encs : Fin N → List Value} (J Jx : List (ItX μ N encs) → World → Prop) (c : Code) (Q : Exit → Slots → Mem → Bool → List (ItX μ N encs) → Prop) (σ : Slots) (m : Mem) (g : Bool) (xs : List (ItX μ N encs)) : Prop where
  wp : ∀ a W, ISt nt μ mc J Jx σ m g xs a W → c.wpIn (fw none) 2 P (IPt nt μ mc J Jx Q) a W
variable {Q : Exit → Slots → Mem → Bool → List (ItX μ N encs) → Prop} {σ : Slots} {m : Mem} {g : Bool} {xs : List (ItX μ N encs)}
def ThenI (M : Slots → Mem → Bool → List (ItX μ N encs) → Prop) (Q : Exit → Slots → Mem → Bool → List (ItX μ N encs) → Prop) : Exit → Slots → Mem → Bool → List (ItX μ N encs) → Prop
  | .normal => M
  | e => Q e
def BlockI (id : Nat) (Q : Exit → Slots → Mem → Bool → List (ItX μ N encs) → Prop) : Exit → Slots → Mem → Bool → List (ItX μ N encs) → Prop
  | .exit k, σ, m, g, xs => cond (Nat.beq k id) (Q .normal σ m g xs) (Q (.exit k) σ m g xs)
  | e, σ, m, g, xs => Q e σ m g xs
theorem iw_skip (h : Q .normal σ m g xs) : IW P nt μ mc J Jx .skip Q σ m g xs := ⟨fun a W hs => wpIn_skip ⟨_, _, _, _, hs, h⟩⟩
theorem iw_exit {id : Nat} (h : Q (.exit id) σ m g xs) : IW P nt μ mc J Jx (.exit id) Q σ m g xs := ⟨fun a W hs => wpIn_exit ⟨_, _, _, _, hs, h⟩⟩
theorem iw_ret (h : Q .ret σ m g xs) : IW P nt μ mc J Jx .ret Q σ m g xs := ⟨fun a W hs => wpIn_ret ⟨_, _, _, _, hs, h⟩⟩
theorem iw_seq {x y : Code} (h : IW P nt μ mc J Jx x (ThenI (IW P nt μ mc J Jx y Q) Q) σ m g xs) : IW P nt μ mc J Jx (.seq x y) Q σ m g xs := ⟨fun a W hs =>
  wpIn_seq (wpIn_mono (h.wp a W hs) fun e a' W' ⟨σ', m', g', xs', h1, h2⟩ => by
    cases e with
    | normal => exact h2.wp a' W' h1
    | _ => exact ⟨σ', m', g', xs', h1, h2⟩)⟩
theorem iw_block {id : Nat} {c : Code} (h : IW P nt μ mc J Jx c (BlockI id Q) σ m g xs) : IW P nt μ mc J Jx (.block id c) Q σ m g xs := ⟨fun a W hs =>
  wpIn_block (wpIn_mono (h.wp a W hs) fun e a' W' ⟨σ', m', g', xs', h1, h2⟩ => by
    cases e with
    | exit k =>
      simp only [Exit.inBlock]
      simp only [BlockI] at h2
      by_cases hk : k = id
      · subst hk
        rw [show Nat.beq k k = true from Nat.beq_refl k] at h2
        rw [if_pos rfl]
        exact ⟨σ', m', g', xs', h1, h2⟩
      · have hb' : Nat.beq k id = false := by
          cases hb : Nat.beq k id with
          | false => rfl
          | true => exact absurd (Nat.eq_of_beq_eq_true hb) hk
        rw [hb'] at h2
        rw [if_neg hk]
        exact ⟨σ', m', g', xs', h1, h2⟩
    | _ => exact ⟨σ', m', g', xs', h1, h2⟩)⟩
theorem ISt.slots {a : Act} {W : World} (h : ISt nt μ mc J Jx σ m g xs a W) : ∃ μ', SlotsOK μ' σ a := by
  obtain ⟨W0, μ', _, _, h3, _⟩ := h.ex
  exact ⟨μ', h3.slots⟩
theorem iw_cond {c : Operand} {x y : Code} {b : Bool} (hc : ev σ c = some (.bool b)) (h1 : b = true → IW P nt μ mc J Jx x Q σ m g xs) (h0 : b = false → IW P nt μ mc J Jx y Q σ m g xs) : IW P nt μ mc J Jx (.cond c x y) Q σ m g xs := ⟨fun a W hs => by
  obtain ⟨μ', h⟩ := hs.slots
  exact wpIn_cond_split (ev_ok h hc).bool' (fun e => (h1 e).wp a W hs) (fun e => (h0 e).wp a W hs)⟩
theorem iw_loop {c : Code} (I : Nat → Slots → Mem → Bool → List (ItX μ N encs) → Prop) {k : Nat} (h0 : I k σ m g xs) (hr : ∀ k σ m g xs, I k σ m g xs → IW P nt μ mc J Jx c (ThenI (fun σ' m' g' xs' => ∃ k', k' < k ∧ I k' σ' m' g' xs') Q) σ m g xs) : IW P nt μ mc J Jx (.loop c) Q σ m g xs := by
  constructor
  intro a W hs b K cs hro hb hroom
  have key : ∀ n k, k = n → ∀ σ m g xs a1 w', I k σ m g xs → ISt nt μ mc J Jx σ m g xs a1 w' →
      ∃ e a' w'', IPt nt μ mc J Jx Q e a' w'' ∧ ArrivesIn (Machine.fenced P (fw none)) P (lone (b.atR a1 (.code c :: .inLoop c :: K)) cs w') b K cs e a' w'' := by
    intro n
    induction n using Nat.strongRecOn with
    | _ n ih =>
      intro k hk σ m g xs a1 w' hI hS
      obtain ⟨e, a₁, w₁, hp, harr⟩ := (hr k σ m g xs hI).wp a1 w' hS b (.inLoop c :: K) cs hro hb (room_fw _ _)
      cases e with
      | normal =>
        obtain ⟨σ2, m2, g2, xs2, j1, k', hlt, hI'⟩ := hp
        obtain ⟨e₂, a₂, w₂, hq₂, harr₂⟩ := ih k' (hk ▸ hlt) k' rfl σ2 m2 g2 xs2 a₁ w₁ hI' j1
        exact ⟨e₂, a₂, w₂, hq₂, .of_steps (StepsIn.trans harr (.one (fenced_calm hb (room_fw _ (cs.length + 1 + 2)) rfl) stepR_inLoop)) harr₂⟩
      | _ => exact ⟨_, a₁, w₁, hp, .pass (x := .inLoop c) rfl (fun _ _ => .inl (by simp)) harr⟩
  obtain ⟨e, a', w', hq, harr⟩ := key k k rfl σ m g xs a W h0 hs
  exact ⟨e, a', w', hq, .of_steps (.one (fenced_calm hb (room_fw _ (cs.length + 1 + 2)) rfl) stepR_loop) harr⟩
theorem iw_any {id : Nat} {ops : Array Oper} (hf : P.follows .mixedOrders = true) (hd : dstsOK nt ops = true) (h : Rg P nt ops (fun σ' m' => Nat.ble mc.length m'.length = true ∧ Q .normal σ' m' g xs) σ m) : IW P nt μ mc J Jx (.region id ops true) Q σ m g xs := ⟨fun a W hs => by
  obtain ⟨W0, μ', h1, h2, h3, h4⟩ := hs.ex
  refine wpIn_mono (wpIn_region_any hf (wpAny_in (fun ⟨_, _, h⟩ => h) (dstsOK_nd hd) _ _ _ _ (h _ _ _ _ _ h3))) ?_
  intro e a' W' hq
  cases e with
  | normal =>
    obtain ⟨μ2, σ', m', k1, k2, k3, k4, k5⟩ := hq
    exact ⟨σ', m', g, xs, ⟨W0, μ2, fun hg => ⟨(h1 hg).1, Nat.le_of_ble_eq_true k4, (h1 hg).2.2.1, (h1 hg).2.2.2.trans (k1.le (h1 hg).2.1)⟩, h2, k2, by rw [k3, h4]⟩, k5⟩
  | _ => exact hq.elim⟩
theorem iw_list {id : Nat} {ops : Array Oper} (hd : dstsOK nt ops = true) (h : Run P ops (fun σ' m' => Nat.ble mc.length m'.length = true ∧ Q .normal σ' m' g xs) ops.toList σ m) : IW P nt μ mc J Jx (.region id ops false) Q σ m g xs := ⟨fun a W hs => by
  obtain ⟨W0, μ', h1, h2, h3, h4⟩ := hs.ex
  refine wpIn_mono (Q := NormalQ (IPt nt μ mc J Jx Q .normal)) (wpIn_region_list (wpList_in (fun ⟨_, _, h⟩ => h) _ _ _ (dstsOK_nd hd) (run_sound ops.toList σ m μ' a W (dstsOK_spec hd) h3 h fun μ2 σ' m' a' w' k1 _ k2 k4 k3 => ?_))) ?_
  · exact ⟨σ', m', g, xs, ⟨W0, μ2, fun hg => ⟨(h1 hg).1, Nat.le_of_ble_eq_true k4.1, (h1 hg).2.2.1, (h1 hg).2.2.2.trans (k1.le (h1 hg).2.1)⟩, h2, k2, by rw [k3, h4]⟩, k4.2⟩
  · intro e a' W' hq
    cases e with
    | normal => exact hq
    | _ => exact hq.elim⟩
/-- What the caller promises the iterator. -/
structure YC (P : Program) (l : Nat) (μ : Mu) (mc : Mem) {N : Nat} {encs : Fin N → List Value} (J Jx : List (ItX μ N encs) → World → Prop) : Prop where
  dom : Dom μ mc.length
  ro : Ro mc
  j : ∀ xs W W', J xs W → W.grownBy W' none → J xs W'
  y : ∀ pre (x : ItX μ N encs) W, J pre W → pre.length < N → YieldAt (fw none) 1 P l x.val.2 W fun e W' => (e = .returned (.bool true) ∧ J (pre ++ [x]) W' ∧ (RepO μ mc W → RepO μ mc W')) ∨ (e = .returned (.bool false) ∧ Jx (pre ++ [x]) W')
theorem run_yield {o : Oper} {c : Operand} {as : Array Operand} {ts : Array TypeId} (hop : o.op = .call { callee := .value c, args := as, argTypes := ts }) {a : Act} {W : World} {l : Nat} (hc : a.eval c = .func (.yield l) #[] #[]) : (execOp a.eval o).run P W = (Instr.yield l (as.map a.eval)).run P W := by
  simp [execOp, hop, resolve, Deferred.ofValue, hc, invoke]
theorem yield_op {o : Oper} {c : Operand} {as : Array Operand} {ts : Array TypeId} {d : Nat} (hop : o.op = .call { callee := .value c, args := as, argTypes := ts }) (hdst : o.dst = some d) (hd : d < nt) {i : Fin N} (σg σx : Slots) (hY : YC P l μ mc J Jx)
    (hev : ev σ c = some (.func (.yield l) #[] #[])) (hargs : as.toList.map (ev σ) = (encs i).map some) (hlt : (encs i).all (ltV mc.length 4) = true) (hlen : xs.length < N)
    (hsg : Sub σg σ) (hlg : ltS mc.length σg = true) (hsx : Sub σx σ) (hlx : ltS 0 σx = true)
    {a : Act} {W : World} {K : Act → World → Prop} {Q : Exit → Act → World → Prop} (hs : ISt nt μ mc J Jx σ m true xs a W)
    (hK1 : ∀ (x : ItX μ N encs) a' W', x.val.1 = i → ISt nt μ mc J Jx (put σg (some d) (.bool true)) (rdo mc) true (xs ++ [x]) a' W' → K a' W')
    (hK2 : ∀ (x : ItX μ N encs) a' W', x.val.1 = i → ISt nt μ mc J Jx (put σx (some d) (.bool false)) [] false (xs ++ [x]) a' W' → K a' W') : o.wpIn (fw none) 2 P a W K Q := by
  obtain ⟨W0, μ', h1, _, h3, h4⟩ := hs.ex
  obtain ⟨j1, j2, j3, j4⟩ := h1 rfl
  have hgr : W0.grownBy W none := ⟨h3.mem.os, h3.mem.tape, h3.mem.output, h3.mem.size, fun k hk _ => h3.mem.frame k (by omega)⟩
  have hc : a.eval c = .func (.yield l) #[] #[] := by
    have hv := ev_ok h3.slots hev
    generalize a.eval c = v at hv
    cases hv with
    | func s1 r1 s2 r2 =>
      rename_i x' y'
      have e1 : x' = #[] := Array.eq_empty_of_size_eq_zero (by simpa using s1.symm)
      have e2 : y' = #[] := Array.eq_empty_of_size_eq_zero (by simpa using s2.symm)
      rw [e1, e2]
  have hrs : restr μ' mc.length = restr μ mc.length := restr_ext j4
  have hl : as.size = (encs i).length := by
    have := congrArg List.length hargs
    simpa using this
  have hx : (as.map a.eval).size = (encs i).length ∧ ∀ (q : Nat) u v, (encs i)[q]? = some u → (as.map a.eval)[q]? = some v → VR μ u v := by
    refine ⟨by simpa using hl, fun q u v hu hv => ?_⟩
    rw [Array.getElem?_map] at hv
    cases ha : as[q]? with
    | none => rw [ha] at hv; cases hv
    | some y =>
      rw [ha] at hv
      cases hv
      have e : (as.toList.map (ev σ))[q]? = some (ev σ y) := by rw [List.getElem?_map, Array.getElem?_toList, ha]; rfl
      rw [hargs, List.getElem?_map, hu] at e
      have e2 : ev σ y = some u := by simpa using e.symm
      have := (ev_ok h3.slots e2).lt 4 (List.all_eq_true.1 hlt u (List.mem_of_getElem? hu))
      rw [hrs] at this
      exact this.mono (fun id L h => by unfold restr at h; split at h; exact h; cases h)
  have hrepW : RepO μ mc W := j3.keep hY.ro fun k c e p hk _ => h3.mem.frame k (by have := (Array.getElem?_eq_some_iff.1 hk).1; omega)
  let x : ItX μ N encs := ⟨(i, as.map a.eval), hx⟩
  obtain ⟨fn, tmps, assign, body, hy, hR⟩ := hY.y xs x W (hY.j _ _ _ j1 hgr) hlen
  refine ⟨fun _ _ => trivial, ?_⟩
  rw [show (fw none).round = none from rfl, semAt_fw (by unfold notDefer; rw [hop]), run_yield hop hc]
  have hy' : (Instr.yield l (as.map a.eval)).run P W = .ok (.round l fn tmps assign body) W := hy
  rw [hy']
  refine ⟨fun h => (by cases h), hR.mono ?_⟩
  rintro e W' (⟨rfl, k1, k2⟩ | ⟨rfl, k1⟩)
  · refine hK1 x _ _ rfl ⟨W', μ, fun _ => ⟨k1, by rw [rdo_len]; exact Nat.le_refl _, k2 hrepW, Ext.refl _ _⟩, fun h => (by cases h), ⟨by rw [Act.size_put]; exact h3.nt, by rw [Act.defers_put, h4]; exact DefOK.nil, ?_, (k2 hrepW).rep, by rw [rdo_len]; exact hY.dom⟩, by rw [Act.defers_put, h4]⟩
    rw [hdst]
    have q := ((h3.slots.sub hsg).lt hlg)
    rw [hrs] at q
    exact (q.mono (fun id L h => by unfold restr at h; split at h; exact h; cases h)).put (.bool true) fun t e => by cases e; rw [h3.nt]; exact hd
  · refine hK2 x _ _ rfl ⟨W', fun _ => none, fun h => (by cases h), fun _ => k1, ⟨by rw [Act.size_put]; exact h3.nt, by rw [Act.defers_put, h4]; exact DefOK.nil, ?_, ?_, fun _ _ => rfl⟩, by rw [Act.defers_put, h4]⟩
    · rw [hdst]
      have q := ((h3.slots.sub hsx).lt hlx)
      have e0 : restr μ' 0 = fun _ => none := by funext id; unfold restr; rw [if_neg (by omega)]
      rw [e0] at q
      exact q.put (.bool false) fun t e => by cases e; rw [h3.nt]; exact hd
    · exact ⟨rfl, rfl, rfl, Nat.le_refl _, fun _ _ => rfl, ⟨fun k hk => hk, ⟨fun g hg => by simp [ambs] at hg⟩⟩, fun id B hB => by simp [live] at hB, fun id id' B B' L L' h1 => by simp [live] at h1⟩
/-- What is left of a drawn region. -/
structure IA (P : Program) (nt : Nat) (μ : Mu) (mc : Mem) {N : Nat} {encs : Fin N → List Value} (J Jx : List (ItX μ N encs) → World → Prop) (ops : Array Oper) (Q : Exit → Slots → Mem → Bool → List (ItX μ N encs) → Prop) (r : Nat) (L : Array Bool) (σ : Slots) (m : Mem) (g : Bool) (xs : List (ItX μ N encs)) : Prop where
  wp : ∀ a W, ISt nt μ mc J Jx σ m g xs a W → wpAnyIn (fw none) 2 P .any ops (IPt nt μ mc J Jx Q) r L a W
/-- What is left of a region in its order. -/
structure IL (P : Program) (nt : Nat) (μ : Mu) (mc : Mem) {N : Nat} {encs : Fin N → List Value} (J Jx : List (ItX μ N encs) → World → Prop) (ops : Array Oper) (Q : Exit → Slots → Mem → Bool → List (ItX μ N encs) → Prop) (r : List Oper) (σ : Slots) (m : Mem) (g : Bool) (xs : List (ItX μ N encs)) : Prop where
  wp : ∀ a W, ISt nt μ mc J Jx σ m g xs a W → wpListIn (fw none) 2 P ops (IPt nt μ mc J Jx Q) r a W
variable {ops : Array Oper} {r : Nat} {L : Array Bool} {i : Nat} {o : Oper} {v : Value} {rest : List Oper}
theorem ISt.sub {σ0 : Slots} (hsub : Sub σ σ0) {a : Act} {W : World} (h : ISt nt μ mc J Jx σ0 m g xs a W) : ISt nt μ mc J Jx σ m g xs a W := by
  obtain ⟨W0, μ', h1, h2, h3, h4⟩ := h.ex
  exact ⟨W0, μ', h1, h2, ⟨h3.nt, h3.defers, h3.slots.sub hsub, h3.mem, h3.dom⟩, h4⟩
theorem ISt.want {a : Act} {W : World} {b : Bool} (h : ISt nt μ mc J Jx σ m g xs a W) (hw : Want ops σ o b) : Region.wanted o (yielded ops a.tmps) = b := by
  obtain ⟨μ', hs⟩ := h.slots
  exact want_ok hs hw
theorem ISt.undef {a : Act} {W : World} (h : ISt nt μ mc J Jx σ m g xs a W) (hd : ∀ t, o.dst = some t → t < nt) : ISt nt μ mc J Jx (put σ o.dst undef) m g xs (a.put o.dst undef) W := by
  obtain ⟨W0, μ', h1, h2, h3, h4⟩ := h.ex
  exact ⟨W0, μ', h1, h2, ⟨by rw [Act.size_put]; exact h3.nt, by rw [Act.defers_put]; exact h3.defers, h3.slots.put (vr_undef _) fun t ht => by rw [h3.nt]; exact hd t ht, h3.mem, h3.dom⟩, by rw [Act.defers_put, h4]⟩
theorem ISt.op {a : Act} {W : World} {K : Act → World → Prop} {Q : Exit → Act → World → Prop} (h : ISt nt μ mc J Jx σ m g xs a W) (hnd : notDefer o = true) (hd : ∀ t, o.dst = some t → t < nt) (hop : OpOK P o (ev σ) m v m) (hK : ∀ a' W', ISt nt μ mc J Jx (put σ o.dst v) m g xs a' W' → K a' W') : o.wpIn (fw none) 2 P a W K Q := by
  obtain ⟨W0, μ', h1, h2, h3, h4⟩ := h.ex
  refine oper_in hnd (K := K) (fun _ _ h => h) (hop.ok _ W0 μ' a W K Q h3.dom h3.mem (fun x u _ hx => ev_ok h3.slots hx) fun μ2 y W' k1 k2 k3 k4 => hK _ _ ?_)
  exact ⟨W0, μ2, fun hg => ⟨(h1 hg).1, (h1 hg).2.1, (h1 hg).2.2.1, (h1 hg).2.2.2.trans (k1.le (h1 hg).2.1)⟩, h2, ⟨by rw [Act.size_put]; exact h3.nt, by rw [Act.defers_put]; exact h3.defers, (h3.slots.mono (k1.sub h3.dom)).put k4 fun t ht => by rw [h3.nt]; exact hd t ht, k3, k2⟩, by rw [Act.defers_put, h4]⟩
theorem ia_done (hr : Region.ready .any ops L = []) (h : Q .normal σ m g xs) : IA P nt μ mc J Jx ops Q r L σ m g xs := ⟨fun a W hs => wpAnyIn_done hr ⟨_, _, _, _, hs, h⟩ r⟩
theorem ia_one {a : Act} {W : World} {Q : Exit → Act → World → Prop} (hr : Region.ready .any ops L = [i]) (h : wpOpIn (fw none) 2 P ops Q i (wpAnyIn (fw none) 2 P .any ops Q r (L.setIfInBounds i true)) a W) : wpAnyIn (fw none) 2 P .any ops Q (r + 1) L a W :=
  ⟨fun h => (by rw [hr] at h; cases h), fun j hj => (by rw [hr] at hj; rw [List.mem_singleton.1 hj]; exact h)⟩
theorem ia_yes (hr : Region.ready .any ops L = [i]) (ho : ops[i]? = some o) (hnd : notDefer o = true) (hd : dstOK nt o = true) {σ0 : Slots} (hsub : Sub σ σ0) (hw : Want ops σ o true) (hop : OpOK P o (ev σ) m v m) (h : IA P nt μ mc J Jx ops Q r (L.setIfInBounds i true) (put σ o.dst v) m g xs) : IA P nt μ mc J Jx ops Q (r + 1) L σ0 m g xs := ⟨fun a W hs => ia_one hr (by
  have hs := hs.sub hsub
  unfold wpOpIn
  rw [ho]
  dsimp only
  rw [if_pos (hs.want hw)]
  exact hs.op hnd (fun t ht => by unfold dstOK at hd; rw [ht] at hd; exact Nat.blt_eq.mp hd) hop fun a' W' => h.wp a' W')⟩
theorem ia_no (hr : Region.ready .any ops L = [i]) (ho : ops[i]? = some o) (hd : dstOK nt o = true) {σ0 : Slots} (hsub : Sub σ σ0) (hw : Want ops σ o false) (h : IA P nt μ mc J Jx ops Q r (L.setIfInBounds i true) (put σ o.dst undef) m g xs) : IA P nt μ mc J Jx ops Q (r + 1) L σ0 m g xs := ⟨fun a W hs => ia_one hr (by
  have hs := hs.sub hsub
  unfold wpOpIn
  rw [ho]
  dsimp only
  rw [if_neg (by rw [hs.want hw]; simp)]
  exact ⟨fun _ _ => trivial, h.wp _ _ (hs.undef fun t ht => by unfold dstOK at hd; rw [ht] at hd; exact Nat.blt_eq.mp hd)⟩)⟩
theorem ia_yield (hr : Region.ready .any ops L = [i]) (ho : ops[i]? = some o) {c : Operand} {as : Array Operand} {ts : Array TypeId} {d : Nat} (hop : o.op = .call { callee := .value c, args := as, argTypes := ts }) (hdst : o.dst = some d) (hd : Nat.blt d nt = true) (q : Fin N) (σg σx : Slots) (hY : YC P l μ mc J Jx) (hw : Want ops σ o true)
    (hev : ev σ c = some (.func (.yield l) #[] #[])) (hargs : as.toList.map (ev σ) = (encs q).map some) (hlt : (encs q).all (ltV mc.length 4) = true) (hlen : xs.length < N)
    (hsg : Sub σg σ) (hlg : ltS mc.length σg = true) (hsx : Sub σx σ) (hlx : ltS 0 σx = true)
    (h1 : ∀ x : ItX μ N encs, x.val.1 = q → IA P nt μ mc J Jx ops Q r (L.setIfInBounds i true) (put σg (some d) (.bool true)) (rdo mc) true (xs ++ [x]))
    (h2 : ∀ x : ItX μ N encs, x.val.1 = q → IA P nt μ mc J Jx ops Q r (L.setIfInBounds i true) (put σx (some d) (.bool false)) [] false (xs ++ [x])) : IA P nt μ mc J Jx ops Q (r + 1) L σ m true xs := ⟨fun a W hs => ia_one hr (by
  unfold wpOpIn
  rw [ho]
  dsimp only
  rw [if_pos (hs.want hw)]
  exact yield_op hop hdst (Nat.blt_eq.mp hd) σg σx hY hev hargs hlt hlen hsg hlg hsx hlx hs (fun x a' W' e => (h1 x e).wp a' W') (fun x a' W' e => (h2 x e).wp a' W'))⟩
theorem il_nil (h : Q .normal σ m g xs) : IL P nt μ mc J Jx ops Q [] σ m g xs := ⟨fun a W hs => ⟨_, _, _, _, hs, h⟩⟩
theorem il_yes (hnd : notDefer o = true) (hd : dstOK nt o = true) {σ0 : Slots} (hsub : Sub σ σ0) (hw : Want ops σ o true) (hop : OpOK P o (ev σ) m v m) (h : IL P nt μ mc J Jx ops Q rest (put σ o.dst v) m g xs) : IL P nt μ mc J Jx ops Q (o :: rest) σ0 m g xs := ⟨fun a W hs => by
  have hs := hs.sub hsub
  unfold wpListIn
  rw [if_pos (hs.want hw)]
  exact hs.op hnd (fun t ht => by unfold dstOK at hd; rw [ht] at hd; exact Nat.blt_eq.mp hd) hop fun a' W' => h.wp a' W'⟩
theorem il_no (hd : dstOK nt o = true) {σ0 : Slots} (hsub : Sub σ σ0) (hw : Want ops σ o false) (h : IL P nt μ mc J Jx ops Q rest (put σ o.dst undef) m g xs) : IL P nt μ mc J Jx ops Q (o :: rest) σ0 m g xs := ⟨fun a W hs => by
  have hs := hs.sub hsub
  unfold wpListIn
  rw [if_neg (by rw [hs.want hw]; simp)]
  exact ⟨fun _ _ => trivial, h.wp _ _ (hs.undef fun t ht => by unfold dstOK at hd; rw [ht] at hd; exact Nat.blt_eq.mp hd)⟩⟩
theorem il_yield {c : Operand} {as : Array Operand} {ts : Array TypeId} {d : Nat} (hop : o.op = .call { callee := .value c, args := as, argTypes := ts }) (hdst : o.dst = some d) (hd : Nat.blt d nt = true) (q : Fin N) (σg σx : Slots) (hY : YC P l μ mc J Jx) (hw : Want ops σ o true)
    (hev : ev σ c = some (.func (.yield l) #[] #[])) (hargs : as.toList.map (ev σ) = (encs q).map some) (hlt : (encs q).all (ltV mc.length 4) = true) (hlen : xs.length < N)
    (hsg : Sub σg σ) (hlg : ltS mc.length σg = true) (hsx : Sub σx σ) (hlx : ltS 0 σx = true)
    (h1 : ∀ x : ItX μ N encs, x.val.1 = q → IL P nt μ mc J Jx ops Q rest (put σg (some d) (.bool true)) (rdo mc) true (xs ++ [x]))
    (h2 : ∀ x : ItX μ N encs, x.val.1 = q → IL P nt μ mc J Jx ops Q rest (put σx (some d) (.bool false)) [] false (xs ++ [x])) : IL P nt μ mc J Jx ops Q (o :: rest) σ m true xs := ⟨fun a W hs => by
  unfold wpListIn
  rw [if_pos (hs.want hw)]
  exact yield_op hop hdst (Nat.blt_eq.mp hd) σg σx hY hev hargs hlt hlen hsg hlg hsx hlx hs (fun x a' W' e => (h1 x e).wp a' W') (fun x a' W' e => (h2 x e).wp a' W')⟩
/-- A drawn region with a yield behind its first k operations. -/
theorem iw_cut {id k : Nat} (hf : P.follows .mixedOrders = true) (hc : chkCut ops k = true) (hd : dstsOK nt ops = true) (h : Rg P nt (ops.extract 0 k) (fun σ' m' => Nat.ble mc.length m'.length = true ∧ IA P nt μ mc J Jx ops Q (ops.size - k) (upTo ops.size k) σ' m' g xs) σ m) : IW P nt μ mc J Jx (.region id ops true) Q σ m g xs := ⟨fun a W hs => by
  obtain ⟨W0, μ', h1, h2, h3, h4⟩ := hs.ex
  have hcut := chkCut_spec hc
  have hlt := hcut.lt
  have hsz : (ops.extract 0 k).size = k := by simp; omega
  have hw := h _ _ _ _ _ h3
  rw [hsz] at hw
  have key := cut_in (rd := none) (n := 2) (P := P) (r := ops.size - k) (Q := IPt nt μ mc J Jx Q) hcut (dstsOK_nd hd) (fun a' W' hq => ?_) k (Array.replicate k false) (Array.replicate ops.size false) a W.drew (by simp) (by simp) (fun i hi => ?_) (fun i hi => ?_) (fun i o ho hl => ?_) ?_ hw
  · rw [show k + (ops.size - k) = ops.size by omega] at key
    exact wpIn_region_any hf key
  · obtain ⟨μ2, σ', m', k1, k2, k3, k4, k5⟩ := hq
    exact k5.wp a' W' ⟨W0, μ2, fun hg => ⟨(h1 hg).1, Nat.le_of_ble_eq_true k4, (h1 hg).2.2.1, (h1 hg).2.2.2.trans (k1.le (h1 hg).2.1)⟩, h2, k2, by rw [k3, h4]⟩
  · simp [Array.getD]
  · simp [Array.getD]
  · simp [Array.getD] at hl
  · have : (List.range k).countP (fun i => !(Array.replicate k false).getD i false) = (List.range k).length := List.countP_eq_length.2 fun i hi => by simp [Array.getD]
    rw [this, List.length_range]⟩
theorem list_cut {rd : Option Nat} {n : Nat} {N : Act → World → Prop} {Q : Exit → Act → World → Prop} {l2 : List Oper} (hN : ∀ a w, N a w → wpListIn (fw rd) n P ops Q l2 a w) : ∀ (l : List Oper) (a : Act) (w : World), (∀ o ∈ l, notDefer o = true) → wpList P ops (NormalQ N) l a w → wpListIn (fw rd) n P ops Q (l ++ l2) a w
  | [], a, w, _, h => hN a w h
  | o :: l, a, w, hnd, h => by
    unfold wpList at h
    rw [List.cons_append]
    unfold wpListIn
    have ih := list_cut hN l
    split at h
    · rename_i hw
      rw [if_pos hw]
      rcases h with h | ⟨_, _, _, h⟩
      · exact oper_inQ (hnd o (List.mem_cons_self ..)) (fun a w => ih a w fun o' ho => hnd o' (List.mem_cons_of_mem _ ho)) (fun _ _ _ h => h) (fun ⟨_, _, h⟩ => h) h
      · exact h.elim
    · rename_i hw
      rw [if_neg hw]
      exact ⟨fun _ _ => trivial, ih _ _ (fun o' ho => hnd o' (List.mem_cons_of_mem _ ho)) h⟩
/-- A region in its order with a yield behind its first operations. -/
theorem iw_listcut {id : Nat} {l1 l2 : List Oper} (he : ops.toList = l1 ++ l2) (hd : dstsOK nt ops = true) (h : Run P ops (fun σ' m' => Nat.ble mc.length m'.length = true ∧ IL P nt μ mc J Jx ops Q l2 σ' m' g xs) l1 σ m) : IW P nt μ mc J Jx (.region id ops false) Q σ m g xs := ⟨fun a W hs => by
  obtain ⟨W0, μ', h1, h2, h3, h4⟩ := hs.ex
  refine wpIn_region_list ?_
  rw [he]
  have hd1 : ∀ o ∈ l1, ∀ d, o.dst = some d → d < nt := fun o ho => dstsOK_spec hd o (by rw [he]; exact List.mem_append_left _ ho)
  refine list_cut (N := Left nt (fun k => W0.heap.size ≤ k) W0 m.length μ' a.defers (fun σ' m' => Nat.ble mc.length m'.length = true ∧ IL P nt μ mc J Jx ops Q l2 σ' m' g xs)) (fun a' W' hq => ?_) l1 a W (fun o ho => dstsOK_nd hd o (by rw [he]; exact List.mem_append_left _ ho)) (run_sound l1 σ m μ' a W hd1 h3 h fun μ2 σ' m' a' w' k1 _ k2 k4 k3 => ⟨μ2, σ', m', k1, k2, k3, k4⟩)
  obtain ⟨μ2, σ', m', k1, k2, k3, k4, k5⟩ := hq
  exact k5.wp a' W' ⟨W0, μ2, fun hg => ⟨(h1 hg).1, Nat.le_of_ble_eq_true k4, (h1 hg).2.2.1, (h1 hg).2.2.2.trans (k1.le (h1 hg).2.1)⟩, h2, k2, by rw [k3, h4]⟩⟩
theorem iw_cond_t {c : Operand} {x y : Code} (hc : ev σ c = some (.bool true)) (h : IW P nt μ mc J Jx x Q σ m g xs) : IW P nt μ mc J Jx (.cond c x y) Q σ m g xs := iw_cond hc (fun _ => h) (fun h => (by cases h))
theorem iw_cond_f {c : Operand} {x y : Code} (hc : ev σ c = some (.bool false)) (h : IW P nt μ mc J Jx y Q σ m g xs) : IW P nt μ mc J Jx (.cond c x y) Q σ m g xs := iw_cond hc (fun h => (by cases h)) (fun _ => h)
theorem iw_cond_tp {c : Operand} {x y : Code} {p : Prop} [Decidable p] (hc : ev σ c = some (.bool (decide p))) (hp : p) (h : IW P nt μ mc J Jx x Q σ m g xs) : IW P nt μ mc J Jx (.cond c x y) Q σ m g xs := iw_cond_t (by rw [hc, decide_eq_true hp]) h
theorem iw_cond_fp {c : Operand} {x y : Code} {p : Prop} [Decidable p] (hc : ev σ c = some (.bool (decide p))) (hp : ¬ p) (h : IW P nt μ mc J Jx y Q σ m g xs) : IW P nt μ mc J Jx (.cond c x y) Q σ m g xs := iw_cond_f (by rw [hc, decide_eq_false hp]) h
/-- A state that has more than is needed. -/
theorem iw_fits {c : Code} {S : Slots} {B : Mem} (hfit : Fits mc.length S B σ m) (hB : Nat.ble mc.length B.length = true) (h : IW P nt μ mc J Jx c Q S B g xs) : IW P nt μ mc J Jx c Q σ m g xs := ⟨fun a W hs => by
  obtain ⟨W0, μ', h1, h2, h3, h4⟩ := hs.ex
  obtain ⟨f, hren, hslots⟩ := hfit.ex
  refine h.wp a W ⟨W0, fun i => μ' (f i), fun hg => ⟨(h1 hg).1, Nat.le_of_ble_eq_true hB, (h1 hg).2.2.1, (h1 hg).2.2.2.trans hren.ext⟩, h2, ⟨h3.nt, h3.defers, fun t v ht => ?_, h3.mem.renum hren, hren.dom h3.dom⟩, h4⟩
  obtain ⟨u, k1, k2⟩ := hslots t v ht
  exact ⟨(h3.slots t u k1).1, (k2.vr (h3.slots t u k1).2).ren⟩⟩
theorem iw_drawn {id nb : Nat} (M : List Nat) (kb : Nat) (hb : LenR m nb) (hf : P.follows .mixedOrders = true) (hc : chkD ops M kb = true) (hd : dstsOK nt ops = true)
    (h : RunD P ops M kb nb (fun σ' m' => Nat.ble mc.length m'.length = true ∧ Q .normal σ' m' g xs) 0 ops.toList σ m []) : IW P nt μ mc J Jx (.region id ops true) Q σ m g xs := by
  have e := hb.eq
  subst e
  exact iw_any hf hd (rg_any M kb hc hd h)
/-- The first k operations. -/
def front (ops : Array Oper) (k : Nat) : Array Oper := (ops.toList.take k).toArray
theorem front_eq (ops : Array Oper) (k : Nat) : ops.extract 0 k = front ops k := by
  apply Array.ext'
  simp [front, List.extract]
theorem iw_drawnY {id nb : Nat} (k : Nat) (M : List Nat) (kb : Nat) (hb : LenR m nb) (hf : P.follows .mixedOrders = true) (hk : chkCut ops k = true) (hc : chkD (front ops k) M kb = true) (hd : dstsOK nt ops = true)
    (h : RunD P (front ops k) M kb nb (fun σ' m' => Nat.ble mc.length m'.length = true ∧ IA P nt μ mc J Jx ops Q (ops.size - k) (upTo ops.size k) σ' m' g xs) 0 (ops.toList.take k) σ m []) : IW P nt μ mc J Jx (.region id ops true) Q σ m g xs := by
  have e := hb.eq
  subst e
  refine iw_cut hf hk hd ?_
  rw [front_eq]
  refine rg_any M kb hc ?_ h
  unfold dstsOK at hd ⊢
  exact List.all_eq_true.2 fun o ho => List.all_eq_true.1 hd o (by
    have : o ∈ ops.toList.take k := by simpa [front] using ho
    exact List.mem_of_mem_take this)
theorem iw_listY {id : Nat} (k : Nat) (hd : dstsOK nt ops = true) (h : Run P ops (fun σ' m' => Nat.ble mc.length m'.length = true ∧ IL P nt μ mc J Jx ops Q (ops.toList.drop k) σ' m' g xs) (ops.toList.take k) σ m) : IW P nt μ mc J Jx (.region id ops false) Q σ m g xs :=
  iw_listcut (List.take_append_drop k ops.toList).symm hd h
end
/-- An iterator's contract out of its walk. -/
theorem itG_of {P : Program} {gf : FuncId} {fn : Func} {c : Code} {caps : List Value} {mc : Mem} {N : Nat} {encs : Fin N → List Value} (hf : P.funcs[gf]? = some fn) (hb : fn.body = some c) (hn : Nat.ble (caps.length + 1) fn.ntmps = true) (hres : fn.results = #[]) (hro : Ro mc)
    (h : ∀ (μ : Mu) (l : Nat) (J Jx : List (ItX μ N encs) → World → Prop), YC P l μ mc J Jx → IW P fn.ntmps μ mc J Jx c (fun e σ m g xs => (e = .normal ∨ e = .ret) ∧ (g = true → pr xs = List.finRange N)) (argSlots 0 (.func (.yield l) #[] #[] :: caps)) (rdo mc) true []) : ItG P gf caps mc N encs := by
  refine ⟨hro, fun μ w ys hdm hrep hys hv l J Jx W hW hJa hJxa hY h0 => ?_⟩
  have hrepW : RepO μ mc W := hrep.below hro hW
  have hyc : YC P l μ mc J Jx := ⟨hdm, hro, fun xs W W' hJ hg => hJa xs W W' none hJ hg (fun r e => by cases e), hY⟩
  have hn' := Nat.le_of_ble_eq_true hn
  have hsz : (#[Value.func (.yield l) #[] #[]] ++ ys).size = caps.length + 1 := by simp [hys]; omega
  refine callsIn_of_wp hf hb trivial (wpIn_mono ((h μ l J Jx hyc).wp _ W ⟨W, μ, fun _ => ⟨h0, by rw [rdo_len]; exact Nat.le_refl _, hrepW, Ext.refl _ _⟩, fun h => (by cases h), ⟨?_, DefOK.nil, fun t v ht => ?_, hrepW.rep, by rw [rdo_len]; exact hdm⟩, rfl⟩) ?_) rfl
  · simp [hys]; omega
  · obtain ⟨_, hq⟩ := look_args _ _ _ _ ht
    rw [Nat.sub_zero] at hq
    have hlt : t < caps.length + 1 := by have := (List.getElem?_eq_some_iff.1 hq).1; simpa using this
    refine ⟨by simp [hys]; omega, ?_⟩
    have hg : ((#[Value.func (.yield l) #[] #[]] ++ ys) ++ Array.replicate (fn.ntmps - (#[Value.func (.yield l) #[] #[]] ++ ys).size) undef).getD t undef = (#[Value.func (.yield l) #[] #[]] ++ ys)[t]'(by rw [hsz]; exact hlt) := by
      simp only [Array.getD]
      rw [dif_pos (by simp [hys]; omega)]
      exact Array.getElem_append_left (by rw [hsz]; exact hlt)
    dsimp only at hg ⊢
    rw [hg]
    cases t with
    | zero =>
      cases hq
      have e : (#[Value.func (.yield l) #[] #[]] ++ ys)[0]'(by rw [hsz]; exact hlt) = Value.func (.yield l) #[] #[] := by
        rw [Array.getElem_append_left (by simp)]
        rfl
      rw [e]
      exact VR.func (x := #[]) (x' := #[]) (y := #[]) (y' := #[]) rfl (fun i u v h _ => by simp at h) rfl (fun i u v h _ => by simp at h)
    | succ t =>
      have hq' : caps[t]? = some v := by simpa using hq
      have e : (#[Value.func (.yield l) #[] #[]] ++ ys)[t + 1]'(by rw [hsz]; exact hlt) = ys[t]'(by omega) := by
        rw [Array.getElem_append_right (by simp)]
        simp
      rw [e]
      exact hv t v _ hq' (Array.getElem?_eq_getElem (by omega))
  · rintro e a' W' ⟨σ, m, g, xs, hs, he, hg⟩
    obtain ⟨W0, μ', h1, h2, h3, h4⟩ := hs.ex
    have hgr : W0.grownBy W' none := ⟨h3.mem.os, h3.mem.tape, h3.mem.output, h3.mem.size, fun k hk _ => h3.mem.frame k (by omega)⟩
    have hpost : bodyPost P fn (fun e W' => (∃ v, e = .returned v) ∧ ((∃ xs, pr xs = List.finRange N ∧ J xs W') ∨ (∃ pre, True ∧ Jx pre W'))) .ret a' W' := by
      refine bodyPost_ret (results_none hres _ _ _) h4 ⟨⟨_, rfl⟩, ?_⟩
      cases g with
      | true => exact .inl ⟨xs, hg rfl, hJa xs W0 W' none (h1 rfl).1 hgr (fun r e => by cases e)⟩
      | false => exact .inr ⟨xs, trivial, hJxa xs W0 W' none (h2 rfl) hgr (fun r e => by cases e)⟩
    rcases he with rfl | rfl
    · exact hpost
    · exact hpost
end Go.Proofs.YtdenooeaiicheaaGreat.Av
