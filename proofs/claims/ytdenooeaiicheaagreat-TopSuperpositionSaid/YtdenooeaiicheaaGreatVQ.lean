/- Walking in numbers of one's own: a range over a function that has captured blocks which are only read. -/
import Derived.Test.YtdenooeaiicheaaGreatVL
set_option linter.unusedVariables false
set_option linter.unusedSimpArgs false
namespace Go.Proofs.YtdenooeaiicheaaGreat.Av
open Go
open Go.RowKit (Below)
/-- Blocks as they lie in a world. -/
def RepO (μ : Mu) (mc : Mem) (W : World) : Prop := ∀ id B, live mc id = some B → ∃ L, μ id = some L ∧ BlkOK μ B L W
theorem RepM.repO {F w0 μ m W} (h : RepM F w0 μ m W) : RepO μ m W := fun id B hB => by
  obtain ⟨L, h1, h2, _⟩ := h.blk id B hB
  exact ⟨L, h1, h2⟩
/-- Blocks of cells: what may be written holds some. -/
def Ro (mc : Mem) : Prop := ∀ id B, live mc id = some B → (B.rw = false ∨ B.cells ≠ []) ∧ B.z ≠ mapZ
theorem ro_of {mc : Mem} (h : (mc.all fun b => match b with | some B => (!B.rw || !B.cells.isEmpty) && B.z != mapZ | none => true) = true) : Ro mc := fun id B hB => by
  have := List.all_eq_true.1 h (some B) (List.mem_of_getElem? (live_some.1 hB))
  simpa using this
theorem RepO.at_cells {μ mc W id B L} (h : RepO μ mc W) (hro : Ro mc) (hB : live mc id = some B) (hL : μ id = some L) (ht : Takes B L) : ∃ c e p, W.heap[L.b]? = some (.cells c e p) := by
  obtain ⟨L', k1, k2⟩ := h id B hB
  rw [hL] at k1
  cases k1
  have hne : B.cells ≠ [] := by
    rcases ht with ht | ht
    · rcases (hro id B hB).1 with h | h
      · have := ht.1
        rw [h] at this
        cases this
      · exact h
    · exact ht
  obtain ⟨x, l, hx⟩ := List.exists_cons_of_ne_nil hne
  obtain ⟨y, h1, _⟩ := k2.cells.cell (hro id B hB).2 (j := 0) (x := x) (by rw [hx]; rfl)
  unfold World.cell? at h1
  dsimp only at h1
  cases hh : W.heap[L.b]? with
  | none => rw [hh] at h1; cases h1
  | some o =>
    cases o with
    | cells c e p => exact ⟨c, e, p, rfl⟩
    | _ => rw [hh] at h1; cases h1
/-- Such blocks stay where other blocks are changed. -/
theorem RepO.keep {μ mc W W'} (h : RepO μ mc W) (hro : Ro mc) (hh : ∀ k c e p, W.heap[k]? = some (.cells c e p) → (∃ id B L, live mc id = some B ∧ μ id = some L ∧ L.b = k) → W'.heap[k]? = W.heap[k]?) : RepO μ mc W' := fun id B hB => by
  obtain ⟨L, k1, k2⟩ := h id B hB
  refine ⟨L, k1, k2.keep fun ht => ?_⟩
  obtain ⟨c, e, p, hc⟩ := h.at_cells hro hB k1 ht
  exact hh _ c e p hc ⟨id, B, L, hB, k1, rfl⟩
theorem RepO.below {μ mc W W'} (h : RepO μ mc W) (hro : Ro mc) (hb : Below W.heap.size W W') : RepO μ mc W' := h.keep hro fun k c e p hk _ => hb.block k (Array.getElem?_eq_some_iff.1 hk).1
/-- What is yielded: the thing's number, and values as they lie then. -/
abbrev ItX (μ : Mu) (N : Nat) (encs : Fin N → List Value) : Type := { p : Fin N × Array Value // p.2.size = (encs p.1).length ∧ ∀ (i : Nat) u v, (encs p.1)[i]? = some u → p.2[i]? = some v → VR μ u v }
/-- The things' numbers. -/
def pr {μ : Mu} {N : Nat} {encs : Fin N → List Value} (l : List (ItX μ N encs)) : List (Fin N) := l.map fun x => x.val.1
theorem pr_snoc {μ : Mu} {N : Nat} {encs : Fin N → List Value} (l : List (ItX μ N encs)) (x : ItX μ N encs) : pr (l ++ [x]) = pr l ++ [x.val.1] := by simp [pr]
theorem pr_len {μ : Mu} {N : Nat} {encs : Fin N → List Value} (l : List (ItX μ N encs)) : (pr l).length = l.length := by simp [pr]
/-- An iterator over N things: what it has captured lies in the blocks mc, which are only read. -/
structure ItG (P : Program) (gf : FuncId) (caps : List Value) (mc : Mem) (N : Nat) (encs : Fin N → List Value) : Prop where
  ro : Ro mc
  ok : ∀ (μ : Mu) (w : World) (ys : Array Value), Dom μ mc.length → RepO μ mc w → ys.size = caps.length → (∀ (i : Nat) x y, caps[i]? = some x → ys[i]? = some y → VR μ x y) →
    SeqStopsK (fw none) 2 P gf ys (fun x : ItX μ N encs => x.val.2) (fun W W' => RepO μ mc W → RepO μ mc W') (fun xs => pr xs = List.finRange N) (fun _ => True) N w
theorem putE_okV {μ : Mu} : ∀ (ps : List Nat) (vs us : List Value) (σ : Slots) (a : Act), (∀ p ∈ ps, p < a.tmps.size) → us.length = vs.length → (∀ (i : Nat) u v, us[i]? = some u → vs[i]? = some v → VR μ u v) → SlotsOK μ σ a → SlotsOK μ (putE ps us σ) { tmps := (ps.zip vs).foldl (fun t (p, v) => t.setIfInBounds p v) a.tmps, defers := [] } ∧ ((ps.zip vs).foldl (fun t (p, v) => t.setIfInBounds p v) a.tmps).size = a.tmps.size
  | [], [], [], σ, a, _, _, _, h => ⟨h, rfl⟩
  | [], v :: vs, u :: us, σ, a, _, _, _, h => ⟨h, rfl⟩
  | p :: ps, [], [], σ, a, _, _, _, h => ⟨h, rfl⟩
  | p :: ps, v :: vs, u :: us, σ, a, hp, hl, hv, h => by
    have hput : SlotsOK μ (put σ (some p) u) (a.put (some p) v) := h.put (hv 0 u v rfl rfl) fun t e => by cases e; exact hp p (List.mem_cons_self ..)
    have := putE_okV ps vs us (put σ (some p) u) (a.put (some p) v) (fun q hq => by rw [Act.size_put]; exact hp q (List.mem_cons_of_mem _ hq)) (by simpa using hl) (fun i u' v' h1 h2 => hv (i + 1) u' v' (by simpa using h1) (by simpa using h2)) hput
    simp only [Act.put] at this
    refine ⟨this.1, ?_⟩
    have h2 := this.2
    simp only [Array.size_setIfInBounds] at h2
    exact h2
  | [], [], _ :: _, _, _, _, hl, _, _ => by simp at hl
  | [], _ :: _, [], _, _, _, hl, _, _ => by simp at hl
  | _ :: _, [], _ :: _, _, _, _, hl, _, _ => by simp at hl
  | _ :: _, _ :: _, [], _, _, _, hl, _, _ => by simp at hl
/-- **A range over a function whose iterator is over N things.** -/
theorem aw_rangeG {P : Program} {nt n0 : Nat} {Q : Exit → Slots → Mem → Prop} {σ : Slots} {gf : FuncId} [FnI P gf] {t : Nat} {ps : Array Tmp} {assign body : Code} {caps : List Value} {capsV : Array Value} {mc : Mem} {N : Nat} {encs : Fin N → List Value}
    (nk nb : Nat) (g0 : Nat → Nat) (B : List (Fin N) → Mem) (R : List (Fin N) → Prop) (Sx : Fin N → Slots) (X : Exit → Mem → Prop)
    (hit : ItG P gf caps mc N encs) (hg : look σ t = some (.func (.func gf) #[] capsV)) (hcap : capsV.toList = renL g0 caps) (hR : R [])
    (hn : n0 ≤ nk) (hnk : nk ≤ nb) (hg0 : ∀ i, i < mc.length → g0 i < nk) (hσ : ltS nk σ = true) (hSx : ∀ x, ltS nk (Sx x) = true)
    (hra : noRF assign = true) (hrb : noRF body = true) (hps : ∀ p ∈ ps.toList, p < nt) (henc : ∀ x, (encs x).length = ps.size)
    (hB : ∀ pre, (B pre).length = nb ∧ NoMap (B pre) ∧ Renum 0 g0 (B pre) mc)
    (hX : ∀ e m', X e m' → NoMap m')
    (hassign : ∀ pre x, AW P nt nk assign (fun e σ' m' => e = .normal ∧ Fits nk (Sx x) (B pre) σ' m') (putE ps.toList (renL g0 (encs x)) σ) (B pre))
    (hbody : ∀ pre x, R pre → pre.length < N → AW P nt nk body (fun e σ' m' => (e = .normal ∧ Fits nk [] (B (pre ++ [x])) σ' m' ∧ R (pre ++ [x])) ∨ ((e = .ret ∨ ∃ id, e = .exit id) ∧ X e m')) (Sx x) (B pre))
    (hdone : R (List.finRange N) → Q .normal σ (B (List.finRange N))) (hstop : ∀ e m', X e m' → Q e σ m') :
    AW P nt n0 (.rangeFunc (.tmp t) ps assign body) Q σ (B []) := by
  constructor
  intro rd F w0 μ0 a w hd hr
  have hrd : rd = none := hd.resolve_right (by simp [noRF])
  -- the iterator, as it stands
  have hve := ev_ok hr.slots (x := .tmp t) hg
  obtain ⟨ys, hys⟩ : ∃ ys, a.eval (.tmp t) = .func (.func gf) #[] ys ∧ ys.size = caps.length ∧ ∀ (i : Nat) x y, caps[i]? = some x → ys[i]? = some y → VR (fun i => μ0 (g0 i)) x y := by
    generalize a.eval (.tmp t) = v at hve
    cases hve with
    | func s1 r1 s2 r2 =>
      rename_i x' y'
      have hx : x' = #[] := Array.eq_empty_of_size_eq_zero (by simpa using s1.symm)
      subst hx
      have hl : capsV.size = caps.length := by
        have := congrArg List.length hcap
        rw [renL_eq] at this
        simpa using this
      refine ⟨y', rfl, by rw [← s2, hl], fun i x y hx hy => ?_⟩
      have hi : capsV[i]? = some (ren g0 x) := by
        rw [← Array.getElem?_toList, hcap, renL_eq, List.getElem?_map, hx]
        rfl
      exact (r2 i _ _ hi hy).ren
  obtain ⟨hev, hyl, hyv⟩ := hys
  have hmc : ∀ {μ : Mu}, Ext nk μ0 μ → Dom μ nb → (fun i => μ (g0 i)) = fun i => μ0 (g0 i) := fun {μ} he hdm => by
    funext i
    rcases Nat.lt_or_ge i mc.length with h | h
    · exact he _ (hg0 i h)
    · have h1 := (hB []).2.2.dom (μ := μ) (by rw [(hB []).1]; exact hdm) i h
      have h2 := (hB []).2.2.dom (μ := μ0) hr.dom i h
      dsimp only at h1 h2
      rw [h1, h2]
  have hro := hit.ro
  have hrepO : ∀ {F' w' μ W pre}, Ext nk μ0 μ → Dom μ (B pre).length → RepM F' w' μ (B pre) W → RepO (fun i => μ0 (g0 i)) mc W := fun {F' w' μ W pre} he hdm hm => by
    have := (hm.renum (hB pre).2.2).repO
    rwa [hmc he (by rw [← (hB pre).1]; exact hdm)] at this
  have hseq := hit.ok (fun i => μ0 (g0 i)) w ys ((hB []).2.2.dom hr.dom) (hrepO (Ext.refl _ _) hr.dom hr.mem) hyl hyv
  -- what holds between two rounds
  let I : List (ItX (fun i => μ0 (g0 i)) N encs) → World → Prop := fun pre W => ∃ μ, Ext nk μ0 μ ∧ Dom μ (B (pr pre)).length ∧ RepM F w0 μ (B (pr pre)) W ∧ R (pr pre)
  let Ix : Code → List (ItX (fun i => μ0 (g0 i)) N encs) → World → Prop := fun c _ W => ∃ e m' μ, ((e = .ret ∧ c = .ret) ∨ ∃ id, e = .exit id ∧ c = .exit id) ∧ X e m' ∧ Ext nk μ0 μ ∧ Dom μ m'.length ∧ RepM F w0 μ m' W
  let Ax : ItX (fun i => μ0 (g0 i)) N encs → Act → World → Prop := fun x a' _ => a'.tmps.size = nt ∧ a'.defers = [] ∧ SlotsOK (restr μ0 nk) (Sx x.val.1) a'
  have hI : OwnFrom w.heap.size I := fun pre W W' row ⟨μ, h1, h2, h3, h4⟩ hg hrow => ⟨μ, h1, h2, h3.grown (hB (pr pre)).2.1 hr.mem.size hg hrow, h4⟩
  have hIx : ∀ c, OwnFrom w.heap.size (Ix c) := fun c pre W W' row ⟨e, m', μ, h0, h1, h2, h3, h4⟩ hg hrow => ⟨e, m', μ, h0, h1, h2, h3, h4.grown (hX e m' h1) hr.mem.size hg hrow⟩
  have h0 : I [] w := ⟨μ0, Ext.refl _ _, hr.dom, hr.mem, hR⟩
  -- what a step of a round keeps
  have keeps : ∀ {rd' μ} {pre : List (ItX (fun i => μ0 (g0 i)) N encs)} {W μ' m' W' F' w0' l'}, RepM F w0 μ (B (pr pre)) W → Reb rd' (Fr μ (B (pr pre)) W) W [] F' w0' l' → RepM F' w0' μ' m' W' → KeepsFrom w.heap.size W W' ∧ RepM F w0 μ' m' W' := fun {rd' μ pre W μ' m' W' F' w0' l'} hm hreb hm' => by
    obtain ⟨hg1, hg2⟩ := hm.ground (rd := rd')
    have hm2 := hm'.unreb hreb hg1.up
    refine ⟨⟨hm2.size, fun k o _ ho hc => ?_⟩, hm2.unreb hg2 hm.up⟩
    rw [hm2.frame k (Fr.cells hm (hB (pr pre)).2.1 ho hc)]
    exact ho
  have hkc : ∀ {W μ' pre' W' F2 w2}, Ext nk μ0 μ' → Dom μ' (B pre').length → RepM F2 w2 μ' (B pre') W' → RepO (fun i => μ0 (g0 i)) mc W → RepO (fun i => μ0 (g0 i)) mc W' := fun {W μ' pre' W' F2 w2} e2 d2 h2 _ => hrepO e2 d2 h2
  have hsl : ∀ {μ}, Ext nk μ0 μ → SlotsOK μ σ a := fun {μ} he => (hr.slots.lt hσ).mono (restr_to he)
  have has : ∀ (l : Nat) (pre : List (ItX (fun i => μ0 (g0 i)) N encs)) (x : ItX (fun i => μ0 (g0 i)) N encs) (W : World) (K : Act → World → Prop), I pre W → (∀ a' W', KeepsFrom w.heap.size W W' → (RepO (fun i => μ0 (g0 i)) mc W → RepO (fun i => μ0 (g0 i)) mc W') → I pre W' → Ax x a' W' → K a' W') →
      assign.wpIn (fw (some l)) 1 P (Exit.then K (fun _ _ _ => False)) { tmps := (ps.zip x.val.2).foldl (fun t (p, v) => t.setIfInBounds p v) a.tmps, defers := [] } W := fun l pre x W K ⟨μ, e1, e2, e3, e4⟩ hK => by
    have hg1 := (e3.ground (rd := some l)).1
    have hev2 : ∀ (i : Nat) u v, (renL g0 (encs x.val.1))[i]? = some u → x.val.2.toList[i]? = some v → VR μ u v := fun i u v h1 h2 => by
      rw [renL_eq, List.getElem?_map] at h1
      cases hx : (encs x.val.1)[i]? with
      | none => rw [hx] at h1; cases h1
      | some q =>
        rw [hx] at h1
        cases h1
        have := x.property.2 i q v hx (by rw [← Array.getElem?_toList]; exact h2)
        rw [← hmc e1 (by rw [← (hB (pr pre)).1]; exact e2)] at this
        exact this.renTo
    have hp := putE_okV (μ := μ) ps.toList x.val.2.toList (renL g0 (encs x.val.1)) σ a (fun p hp => by rw [hr.nt]; exact hps p hp) (by rw [renL_eq, List.length_map, ← x.property.1, Array.length_toList]) hev2 (hsl e1)
    rw [← zip_arr] at hp
    refine wpIn_n (wpIn_mono ((hassign (pr pre) x.val.1).wp (some l) (Fr μ (B (pr pre)) W) W μ _ W (.inr hra) ⟨hp.2.trans hr.nt, DefOK.nil, hp.1, hg1, e2⟩) ?_)
    rintro e a' W' ⟨F', w0', μ', σ', m', hreb, hext, hrs, rfl, hfit⟩
    obtain ⟨g, hren, hslots⟩ := hfit.ex
    obtain ⟨k1, k2⟩ := keeps e3 hreb hrs.mem
    have hmr := k2.renum hren
    have hext2 : Ext nk μ0 (fun i => μ' (g i)) := e1.trans (hext.trans hren.ext)
    refine hK a' W' k1 (hkc hext2 (hren.dom hrs.dom) hmr) ⟨_, hext2, hren.dom hrs.dom, hmr, e4⟩ ⟨hrs.nt, ?_, ?_⟩
    · rcases hreb.rnd with h | h
      · cases h
      · exact h
    · have hs2 : SlotsOK (fun i => μ' (g i)) (Sx x.val.1) a' := fun t v ht => by
        obtain ⟨u, h1, h2⟩ := hslots t v ht
        exact ⟨(hrs.slots t u h1).1, (h2.vr (hrs.slots t u h1).2).ren⟩
      have := hs2.lt (hSx x.val.1)
      rwa [restr_ext hext2] at this
  have hbd : ∀ (l : Nat) (pre : List (ItX (fun i => μ0 (g0 i)) N encs)) (x : ItX (fun i => μ0 (g0 i)) N encs) (a' : Act) (W : World), I pre W → Ax x a' W → pre.length < N → body.wpIn (fw (some l)) 1 P (ownPostG w.heap.size (fun W W' => RepO (fun i => μ0 (g0 i)) mc W → RepO (fun i => μ0 (g0 i)) mc W') I Ix (pre ++ [x]) W) a' W := fun l pre x a' W ⟨μ, e1, e2, e3, e4⟩ ⟨x1, x2, x3⟩ hlt => by
    have hg1 := (e3.ground (rd := some l)).1
    refine wpIn_n (wpIn_mono ((hbody (pr pre) x.val.1 e4 (by rw [pr_len]; exact hlt)).wp (some l) (Fr μ (B (pr pre)) W) W μ a' W (.inr hrb) ⟨x1, by rw [x2]; exact DefOK.nil, x3.mono (restr_to e1), hg1, e2⟩) ?_)
    rintro e a'' W' ⟨F', w0', μ', σ', m', hreb, hext, hrs, hq⟩
    rw [x2] at hreb
    obtain ⟨k1, k2⟩ := keeps e3 hreb hrs.mem
    rcases hq with ⟨rfl, hfit, hR'⟩ | ⟨he, hx⟩
    · rw [← pr_snoc pre x] at hfit hR'
      obtain ⟨g, hren, _⟩ := hfit.ex
      have hmr := k2.renum hren
      have hext2 : Ext nk μ0 (fun i => μ' (g i)) := e1.trans (hext.trans hren.ext)
      exact ⟨k1, hkc hext2 (hren.dom hrs.dom) hmr, _, hext2, hren.dom hrs.dom, hmr, hR'⟩
    · rcases he with rfl | ⟨id, rfl⟩
      · exact ⟨k1, .ret, m', μ', .inl ⟨rfl, rfl⟩, hx, e1.trans hext, hrs.dom, k2⟩
      · exact ⟨k1, .exit id, m', μ', .inr ⟨id, rfl, rfl⟩, hx, e1.trans hext, hrs.dom, k2⟩
  -- the state behind the loop
  have behind : ∀ {D : Nat} {W : World} {μ m' e}, w.heap.size ≤ D → W.heap[D]? = some (.deferred (some [])) → Ext nk μ0 μ → Dom μ m'.length → NoMap m' → RepM F w0 μ m' W → Q e σ m' →
      Pt rd nt n0 F w0 μ0 a.defers Q e { a with defers := { target := .collected D, args := #[] } :: a.defers } W := fun {D W μ m' e} hD hH e1 e2 e3 e4 hq => by
    have hFD : F D := hr.mem.up D (Nat.le_trans hr.mem.size hD)
    have hDlt : D < W.heap.size := (Array.getElem?_eq_some_iff.1 hH).1
    refine ⟨fun k => F k ∧ k ≠ D, W, μ, σ, m', ⟨e4.os, e4.tape, e4.output, e4.size, fun k hk => hk.1, e4.frame, fun d hd => ?_, .inl hrd⟩, fun id hid => e1 id (by omega), ⟨hr.nt, ⟨fun d hd => ?_, ?_⟩, hsl e1, ?_, e2⟩, hq⟩
    · rcases List.mem_cons.1 hd with rfl | hd
      · exact .inr ⟨D, rfl, hFD⟩
      · exact .inl hd
    · rcases List.mem_cons.1 hd with rfl | hd
      · exact ⟨D, rfl, fun h => h.2 rfl, hH⟩
      · obtain ⟨D', h1, h2, h3⟩ := hr.defers.all d hd
        exact ⟨D', h1, fun h => h2 h.1, (e4.frame D' h2).trans h3⟩
    · refine List.nodup_cons.2 ⟨fun hd => ?_, hr.defers.nd⟩
      obtain ⟨D', h1, h2, _⟩ := hr.defers.all _ hd
      cases h1
      exact h2 hFD
    · refine ⟨rfl, rfl, rfl, Nat.le_refl _, fun _ _ => rfl, ⟨fun k hk => ⟨e4.up k (Nat.le_trans e4.size hk), by omega⟩, e4.now fun k hk => hk.1⟩, fun id b hb => ?_, e4.excl⟩
      obtain ⟨L, h1, h2, h3⟩ := e4.blk id b hb
      refine ⟨L, h1, h2, fun hrw => ⟨h3 hrw, ?_⟩⟩
      rintro rfl
      obtain ⟨c, e', lo, hi, hh, _⟩ := (h2.row (.inl (h2.rw hrw.1)) (.inl hrw)).row (e3 id b hb)
      rw [hH] at hh
      cases hh
  subst hrd
  refine wpIn_rangeFunc_ownH (F := fw none) (n := 3) rfl (by decide) (gf := gf) (lb := ys) hev trivial (fun args w => run_callFunc args w) (Kp := fun W W' => RepO (fun i => μ0 (g0 i)) mc W → RepO (fun i => μ0 (g0 i)) mc W') hseq (fun h k q => k (h q)) (fun W l o o' _ hl ho _ hq => ?_) (Below.refl _ _) (fun x => by show x.val.2.size = _; rw [x.property.1, henc x.val.1]) I Ix hI hIx h0 Ax (fun x a' _ W W' row h _ _ => h)
    (fun l pre x W K hIp hK => has l pre x W K hIp hK) (fun l pre x a' W _ _ hIp hA hlt => hbd l pre x a' W hIp hA hlt) (fun D xs W hD hS ⟨μ, e1, e2, e3, e4⟩ hH => ?_) (fun D c pre W hD _ ⟨e, m', μ, hc, hx, e1, e2, e3⟩ hH => ?_)
  · refine hq.keep hro fun k c e p hk _ => ?_
    rw [World.putObj_heap_other]
    rintro rfl
    rw [hl] at hk
    cases hk
    cases ho
  · have hS' : pr xs = List.finRange N := hS
    rw [hS'] at e2 e3 e4
    exact behind hD hH e1 e2 (hB _).2.1 e3 (hdone e4)
  · rcases hc with ⟨rfl, rfl⟩ | ⟨id, rfl, rfl⟩
    · exact wpIn_ret (behind hD hH e1 e2 (hX _ _ hx) e3 (hstop _ _ hx))
    · exact wpIn_exit (behind hD hH e1 e2 (hX _ _ hx) e3 (hstop _ _ hx))
/-- Memories of one shape. -/
inductive SameSh : Mem → Mem → Prop
  | nil : SameSh [] []
  | keep {x m m'} : SameSh m m' → SameSh (x :: m) (x :: m')
  | chg {c c' r z m m'} : c ≠ [] → c' ≠ [] → SameSh m m' → SameSh (some ⟨c, r, z⟩ :: m) (some ⟨c', r, z⟩ :: m')
theorem SameSh.spec {m m'} (h : SameSh m m') : ∀ {id B'}, live m' id = some B' → ∃ B, live m id = some B ∧ ∀ L, Takes B' L → Takes B L := by
  induction h with
  | nil => intro id B' h; simp [live] at h
  | keep _ ih =>
    intro id B' h
    cases id with
    | zero => exact ⟨B', by simpa [live] using h, fun _ h => h⟩
    | succ id => exact ih (by simpa [live] using h)
  | @chg c c' r z m m' h1 h2 _ ih =>
    intro id B' h
    cases id with
    | zero => exact ⟨⟨c, r, z⟩, rfl, fun L _ => .inr h1⟩
    | succ id => exact ih (by simpa [live] using h)
theorem SameSh.symm {m m'} (h : SameSh m m') : SameSh m' m := by
  induction h with
  | nil => exact .nil
  | keep _ ih => exact .keep ih
  | chg h1 h2 _ ih => exact .chg h2 h1 ih
theorem SameSh.spec2 {m m'} (h : SameSh m m') : ∀ {id B'}, live m id = some B' → ∃ B, live m' id = some B ∧ ∀ L, Takes B' L → Takes B L := h.symm.spec
theorem RepM.snoc {F w0 μ m W b L} (h : RepM F w0 μ m W) (hd : Dom μ m.length) (hb : BlkOK (μ.set m.length L) b L W) (hF : F L.b) (hx : ∀ id B' L', live m id = some B' → μ id = some L' → Takes B' L' → L.b ≠ L'.b) : RepM F w0 (μ.set m.length L) (m ++ [some b]) W := by
  have hn : μ m.length = none := hd _ (Nat.le_refl _)
  have hsub := Mu.set_sub (L := L) hn
  have old : ∀ {id B L'}, live m id = some B → (μ.set m.length L) id = some L' → μ id = some L' := fun {id B L'} h1 h2 => by
    have := (List.getElem?_eq_some_iff.1 (live_some.1 h1)).1
    unfold Mu.set at h2
    rwa [if_neg (by omega)] at h2
  refine ⟨h.os, h.tape, h.output, h.size, h.frame, h.up, fun id B hB => ?_, fun id id' B B' L1 L2 h1 h2 hne l1 l2 hr ht => ?_⟩
  · rcases live_push.1 hB with h1 | ⟨rfl, e⟩
    · obtain ⟨L', k1, k2, k3⟩ := h.blk id B h1
      exact ⟨L', hsub _ _ k1, k2.mono hsub, k3⟩
    · cases e
      exact ⟨L, Mu.set_same, hb, fun _ => hF⟩
  · rcases live_push.1 h1 with h1 | ⟨rfl, e⟩ <;> rcases live_push.1 h2 with h2 | ⟨rfl, e'⟩
    · exact h.excl id id' B B' L1 L2 h1 h2 hne (old h1 l1) (old h2 l2) hr ht
    · rw [Mu.set_same] at l2
      cases l2
      exact (hx id B L1 h1 (old h1 l1) (.inl hr)).symm
    · rw [Mu.set_same] at l1
      cases l1
      exact hx id' B' L2 h2 (old h2 l2) ht
    · exact absurd rfl hne
theorem BlkOK.grown {μ b L W W' row} (h : BlkOK μ b L W) (hrw : b.rw = true) (hz : b.z ≠ mapZ) (hg : W.grownBy W' row) (hr : ∀ r, row = some r → ∃ o : Obj, W.heap[r]? = some o ∧ o.isCells = false) : BlkOK μ b L W' := h.keep fun ht => by
  refine hg.block _ (h.lt ht) fun e => ?_
  obtain ⟨o, ho, hc⟩ := hr _ e.symm
  obtain ⟨c, e', lo, hi, hh, _⟩ := (h.row (.inl (h.rw hrw)) ht).row hz
  rw [ho] at hh
  cases hh
  cases hc
/-- **A range over a function whose iterator is over N things.** -/
theorem aw_rangeGB {P : Program} {nt n0 : Nat} {Q : Exit → Slots → Mem → Prop} {σ : Slots} {gf : FuncId} [FnI P gf] {t : Nat} {ps : Array Tmp} {assign body : Code} {caps : List Value} {capsV : Array Value} {mc : Mem} {N : Nat} {encs : Fin N → List Value}
    (nk : Nat) (g0 : Nat → Nat) (B : List (Fin N) → Mem) (bx : Fin N → Blk) (R : List (Fin N) → Prop) (Sx : Fin N → Slots) (X : Exit → Mem → Prop)
    (hit : ItG P gf caps mc N encs) (hg : look σ t = some (.func (.func gf) #[] capsV)) (hcap : capsV.toList = renL g0 caps) (hR : R [])
    (hn : n0 ≤ nk) (hg0 : ∀ i, i < mc.length → g0 i < nk) (hσ : ltS nk σ = true)
    (hra : noRF assign = true) (hrb : noRF body = true) (hps : ∀ p ∈ ps.toList, p < nt) (henc : ∀ x, (encs x).length = ps.size)
    (hB : ∀ pre, (B pre).length = nk ∧ NoMap (B pre) ∧ Renum 0 g0 (B pre) mc) (hsh : ∀ pre, SameSh (B pre) (B [])) (hbx : ∀ x, (bx x).rw = true ∧ (bx x).z ≠ mapZ) (hbc : ∀ x, (bx x).cells ≠ []) (hdr : ∀ pre x, ∃ g1, Renum nk g1 (B pre ++ [some (bx x)]) (B pre))
    (hX : ∀ e m', X e m' → NoMap m')
    (hassign : ∀ pre x, AW P nt nk assign (fun e σ' m' => e = .normal ∧ Fits nk (Sx x) (B pre ++ [some (bx x)]) σ' m') (putE ps.toList (renL g0 (encs x)) σ) (B pre))
    (hbody : ∀ pre x, R pre → pre.length < N → AW P nt nk body (fun e σ' m' => (e = .normal ∧ Fits nk [] (B (pre ++ [x])) σ' m' ∧ R (pre ++ [x])) ∨ ((e = .ret ∨ ∃ id, e = .exit id) ∧ X e m')) (Sx x) (B pre ++ [some (bx x)]))
    (hdone : R (List.finRange N) → Q .normal σ (B (List.finRange N))) (hstop : ∀ e m', X e m' → Q e σ m') :
    AW P nt n0 (.rangeFunc (.tmp t) ps assign body) Q σ (B []) := by
  constructor
  intro rd F w0 μ0 a w hd hr
  have hrd : rd = none := hd.resolve_right (by simp [noRF])
  -- the iterator, as it stands
  have hve := ev_ok hr.slots (x := .tmp t) hg
  obtain ⟨ys, hys⟩ : ∃ ys, a.eval (.tmp t) = .func (.func gf) #[] ys ∧ ys.size = caps.length ∧ ∀ (i : Nat) x y, caps[i]? = some x → ys[i]? = some y → VR (fun i => μ0 (g0 i)) x y := by
    generalize a.eval (.tmp t) = v at hve
    cases hve with
    | func s1 r1 s2 r2 =>
      rename_i x' y'
      have hx : x' = #[] := Array.eq_empty_of_size_eq_zero (by simpa using s1.symm)
      subst hx
      have hl : capsV.size = caps.length := by
        have := congrArg List.length hcap
        rw [renL_eq] at this
        simpa using this
      refine ⟨y', rfl, by rw [← s2, hl], fun i x y hx hy => ?_⟩
      have hi : capsV[i]? = some (ren g0 x) := by
        rw [← Array.getElem?_toList, hcap, renL_eq, List.getElem?_map, hx]
        rfl
      exact (r2 i _ _ hi hy).ren
  obtain ⟨hev, hyl, hyv⟩ := hys
  have hmc : ∀ {μ : Mu}, Ext nk μ0 μ → Dom μ nk → (fun i => μ (g0 i)) = fun i => μ0 (g0 i) := fun {μ} he hdm => by
    funext i
    rcases Nat.lt_or_ge i mc.length with h | h
    · exact he _ (hg0 i h)
    · have h1 := (hB []).2.2.dom (μ := μ) (by rw [(hB []).1]; exact hdm) i h
      have h2 := (hB []).2.2.dom (μ := μ0) hr.dom i h
      dsimp only at h1 h2
      rw [h1, h2]
  have hro := hit.ro
  have hrepO : ∀ {F' w' μ W pre}, Ext nk μ0 μ → Dom μ (B pre).length → RepM F' w' μ (B pre) W → RepO (fun i => μ0 (g0 i)) mc W := fun {F' w' μ W pre} he hdm hm => by
    have := (hm.renum (hB pre).2.2).repO
    rwa [hmc he (by rw [← (hB pre).1]; exact hdm)] at this
  have hseq := hit.ok (fun i => μ0 (g0 i)) w ys ((hB []).2.2.dom hr.dom) (hrepO (Ext.refl _ _) hr.dom hr.mem) hyl hyv
  -- what holds between two rounds
  let I : List (ItX (fun i => μ0 (g0 i)) N encs) → World → Prop := fun pre W => ∃ μ, Ext nk μ0 μ ∧ Dom μ (B (pr pre)).length ∧ RepM F w0 μ (B (pr pre)) W ∧ R (pr pre)
  let Ix : Code → List (ItX (fun i => μ0 (g0 i)) N encs) → World → Prop := fun c _ W => ∃ e m' μ, ((e = .ret ∧ c = .ret) ∨ ∃ id, e = .exit id ∧ c = .exit id) ∧ X e m' ∧ Ext nk μ0 μ ∧ Dom μ m'.length ∧ RepM F w0 μ m' W
  have hl0 : (B []).length = nk := (hB []).1
  have hsame : ∀ {μ : Mu}, Ext nk μ0 μ → Dom μ nk → μ = μ0 := fun {μ} he hdm => by
    funext i
    rcases Nat.lt_or_ge i nk with h | h
    · exact he i h
    · rw [hdm i h, hr.dom i (by rw [hl0]; exact h)]
  let Ax : ItX (fun i => μ0 (g0 i)) N encs → Act → World → Prop := fun x a' W => a'.tmps.size = nt ∧ a'.defers = [] ∧ ∃ L, BlkOK (μ0.set nk L) (bx x.val.1) L W ∧ F L.b ∧ (∀ id B' L', live (B []) id = some B' → μ0 id = some L' → Takes B' L' → L.b ≠ L'.b) ∧ SlotsOK (μ0.set nk L) (Sx x.val.1) a'
  have hAx : ∀ (x : ItX (fun i => μ0 (g0 i)) N encs) a', OwnFrom w.heap.size (fun (_ : Unit) W => Ax x a' W) := fun x a' _ W W' row ⟨h1, h2, L, h3, h4⟩ hg hrow => ⟨h1, h2, L, h3.grown (hbx x.val.1).1 (hbx x.val.1).2 hg fun r e => (hrow r e).2, h4⟩
  have hnm : ∀ (pre : List (ItX (fun i => μ0 (g0 i)) N encs)) (x : ItX (fun i => μ0 (g0 i)) N encs), NoMap (B (pr pre) ++ [some (bx x.val.1)]) := fun pre x id b hb => by
    rcases live_push.1 hb with h | ⟨_, h⟩
    · exact (hB (pr pre)).2.1 id b h
    · cases h
      exact (hbx x.val.1).2
  have hI : OwnFrom w.heap.size I := fun pre W W' row ⟨μ, h1, h2, h3, h4⟩ hg hrow => ⟨μ, h1, h2, h3.grown (hB (pr pre)).2.1 hr.mem.size hg hrow, h4⟩
  have hIx : ∀ c, OwnFrom w.heap.size (Ix c) := fun c pre W W' row ⟨e, m', μ, h0, h1, h2, h3, h4⟩ hg hrow => ⟨e, m', μ, h0, h1, h2, h3, h4.grown (hX e m' h1) hr.mem.size hg hrow⟩
  have h0 : I [] w := ⟨μ0, Ext.refl _ _, hr.dom, hr.mem, hR⟩
  -- what a step of a round keeps
  have keeps : ∀ {rd' μ m W μ' m' W' F' w0' l'}, NoMap m → RepM F w0 μ m W → Reb rd' (Fr μ m W) W [] F' w0' l' → RepM F' w0' μ' m' W' → KeepsFrom w.heap.size W W' ∧ RepM F w0 μ' m' W' := fun {rd' μ m W μ' m' W' F' w0' l'} hnom hm hreb hm' => by
    obtain ⟨hg1, hg2⟩ := hm.ground (rd := rd')
    have hm2 := hm'.unreb hreb hg1.up
    refine ⟨⟨hm2.size, fun k o _ ho hc => ?_⟩, hm2.unreb hg2 hm.up⟩
    rw [hm2.frame k (Fr.cells hm hnom ho hc)]
    exact ho
  have hkc : ∀ {W μ' pre' W' F2 w2}, Ext nk μ0 μ' → Dom μ' (B pre').length → RepM F2 w2 μ' (B pre') W' → RepO (fun i => μ0 (g0 i)) mc W → RepO (fun i => μ0 (g0 i)) mc W' := fun {W μ' pre' W' F2 w2} e2 d2 h2 _ => hrepO e2 d2 h2
  have hsl : ∀ {μ}, Ext nk μ0 μ → SlotsOK μ σ a := fun {μ} he => (hr.slots.lt hσ).mono (restr_to he)
  have has : ∀ (l : Nat) (pre : List (ItX (fun i => μ0 (g0 i)) N encs)) (x : ItX (fun i => μ0 (g0 i)) N encs) (W : World) (K : Act → World → Prop), I pre W → (∀ a' W', KeepsFrom w.heap.size W W' → (RepO (fun i => μ0 (g0 i)) mc W → RepO (fun i => μ0 (g0 i)) mc W') → I pre W' → Ax x a' W' → K a' W') →
      assign.wpIn (fw (some l)) 1 P (Exit.then K (fun _ _ _ => False)) { tmps := (ps.zip x.val.2).foldl (fun t (p, v) => t.setIfInBounds p v) a.tmps, defers := [] } W := fun l pre x W K ⟨μ, e1, e2, e3, e4⟩ hK => by
    have hg1 := (e3.ground (rd := some l)).1
    have hev2 : ∀ (i : Nat) u v, (renL g0 (encs x.val.1))[i]? = some u → x.val.2.toList[i]? = some v → VR μ u v := fun i u v h1 h2 => by
      rw [renL_eq, List.getElem?_map] at h1
      cases hx : (encs x.val.1)[i]? with
      | none => rw [hx] at h1; cases h1
      | some q =>
        rw [hx] at h1
        cases h1
        have := x.property.2 i q v hx (by rw [← Array.getElem?_toList]; exact h2)
        rw [← hmc e1 (by rw [← (hB (pr pre)).1]; exact e2)] at this
        exact this.renTo
    have hp := putE_okV (μ := μ) ps.toList x.val.2.toList (renL g0 (encs x.val.1)) σ a (fun p hp => by rw [hr.nt]; exact hps p hp) (by rw [renL_eq, List.length_map, ← x.property.1, Array.length_toList]) hev2 (hsl e1)
    rw [← zip_arr] at hp
    refine wpIn_n (wpIn_mono ((hassign (pr pre) x.val.1).wp (some l) (Fr μ (B (pr pre)) W) W μ _ W (.inr hra) ⟨hp.2.trans hr.nt, DefOK.nil, hp.1, hg1, e2⟩) ?_)
    rintro e a' W' ⟨F', w0', μ', σ', m', hreb, hext, hrs, rfl, hfit⟩
    obtain ⟨g, hren, hslots⟩ := hfit.ex
    obtain ⟨k1, k2⟩ := keeps (hB (pr pre)).2.1 e3 hreb hrs.mem
    have hmr := k2.renum hren
    have hext2 : Ext nk μ0 (fun i => μ' (g i)) := e1.trans (hext.trans hren.ext)
    have hdm2 : Dom (fun i => μ' (g i)) (nk + 1) := by
      have := hren.dom hrs.dom
      rwa [List.length_append, (hB (pr pre)).1] at this
    have hlast : live (B (pr pre) ++ [some (bx x.val.1)]) nk = some (bx x.val.1) := live_push.2 (.inr ⟨(hB (pr pre)).1.symm, rfl⟩)
    obtain ⟨L, q1, q2, q3⟩ := hmr.blk nk (bx x.val.1) hlast
    have hmu : (fun i => μ' (g i)) = μ0.set nk L := by
      funext i
      rcases Nat.lt_trichotomy i nk with h | h | h
      · have q := hext2 i h
        dsimp only at q
        rw [q]
        unfold Mu.set
        rw [if_neg (by omega)]
      · subst h
        rw [Mu.set_same]
        exact q1
      · have q := hdm2 i (by omega)
        dsimp only at q
        rw [q]
        unfold Mu.set
        rw [if_neg (by omega), hr.dom i (by rw [hl0]; omega)]
    obtain ⟨g1, hg1'⟩ := hdr (pr pre) x.val.1
    have hmr1 := hmr.renum hg1'
    have hext3 : Ext nk μ0 (fun i => (fun i => μ' (g i)) (g1 i)) := hext2.trans hg1'.ext
    have hdm3 := hg1'.dom (μ := fun i => μ' (g i)) (by rw [List.length_append, (hB (pr pre)).1]; exact hdm2)
    refine hK a' W' k1 (hkc hext3 hdm3 hmr1) ⟨_, hext3, hdm3, hmr1, e4⟩ ⟨hrs.nt, ?_, L, ?_, ?_, ?_, ?_⟩
    · rcases hreb.rnd with h | h
      · cases h
      · exact h
    · rw [← hmu]; exact q2
    · exact q3 (q2.act (hbx x.val.1).1 (.inr (hbc x.val.1)))
    · intro id B' L' h1 h2 h3
      obtain ⟨B2, h4, h5⟩ := (hsh (pr pre)).spec h1
      have hid : id < nk := by
        have := (List.getElem?_eq_some_iff.1 (live_some.1 h1)).1
        rwa [hl0] at this
      exact hmr.excl nk id (bx x.val.1) B2 L L' hlast (live_push.2 (.inl h4)) (by omega) q1 (by rw [← h2]; exact hext2 id hid) (q2.act (hbx x.val.1).1 (.inr (hbc x.val.1))) (h5 L' h3)
    · have hs2 : SlotsOK (fun i => μ' (g i)) (Sx x.val.1) a' := fun t v ht => by
        obtain ⟨u, h1, h2⟩ := hslots t v ht
        exact ⟨(hrs.slots t u h1).1, (h2.vr (hrs.slots t u h1).2).ren⟩
      rw [← hmu]
      exact hs2
  have hbd : ∀ (l : Nat) (pre : List (ItX (fun i => μ0 (g0 i)) N encs)) (x : ItX (fun i => μ0 (g0 i)) N encs) (a' : Act) (W : World), I pre W → Ax x a' W → pre.length < N → body.wpIn (fw (some l)) 1 P (ownPostG w.heap.size (fun W W' => RepO (fun i => μ0 (g0 i)) mc W → RepO (fun i => μ0 (g0 i)) mc W') I Ix (pre ++ [x]) W) a' W := fun l pre x a' W ⟨μ, e1, e2, e3', e4⟩ ⟨x1, x2, L, x3, x4, x5, x6⟩ hlt => by
    have hμ := hsame e1 (by rw [← (hB (pr pre)).1]; exact e2)
    rw [hμ] at e2 e3'
    have hlp := (hB (pr pre)).1
    have e3 : RepM F w0 (μ0.set nk L) (B (pr pre) ++ [some (bx x.val.1)]) W := by
      rw [← hlp] at x3 ⊢
      refine e3'.snoc e2 x3 x4 fun id B' L' h1 h2 h3 => ?_
      obtain ⟨B2, h4, h5⟩ := (hsh (pr pre)).spec2 h1
      exact x5 id B2 L' h4 h2 (h5 L' h3)
    have hd2 : Dom (μ0.set nk L) (B (pr pre) ++ [some (bx x.val.1)]).length := by
      rw [List.length_append, hlp]
      exact Mu.set_dom (by rw [← hlp]; exact e2)
    have hes : Ext nk μ0 (μ0.set nk L) := Mu.set_ext
    have hg1 := (e3.ground (rd := some l)).1
    refine wpIn_n (wpIn_mono ((hbody (pr pre) x.val.1 e4 (by rw [pr_len]; exact hlt)).wp (some l) (Fr (μ0.set nk L) (B (pr pre) ++ [some (bx x.val.1)]) W) W (μ0.set nk L) a' W (.inr hrb) ⟨x1, by rw [x2]; exact DefOK.nil, x6, hg1, hd2⟩) ?_)
    rintro e a'' W' ⟨F', w0', μ', σ', m', hreb, hext, hrs, hq⟩
    rw [x2] at hreb
    obtain ⟨k1, k2⟩ := keeps (hnm pre x) e3 hreb hrs.mem
    rcases hq with ⟨rfl, hfit, hR'⟩ | ⟨he, hx⟩
    · rw [← pr_snoc pre x] at hfit hR'
      obtain ⟨g, hren, _⟩ := hfit.ex
      have hmr := k2.renum hren
      have hext2 : Ext nk μ0 (fun i => μ' (g i)) := hes.trans (hext.trans hren.ext)
      exact ⟨k1, hkc hext2 (hren.dom hrs.dom) hmr, _, hext2, hren.dom hrs.dom, hmr, hR'⟩
    · rcases he with rfl | ⟨id, rfl⟩
      · exact ⟨k1, .ret, m', μ', .inl ⟨rfl, rfl⟩, hx, hes.trans hext, hrs.dom, k2⟩
      · exact ⟨k1, .exit id, m', μ', .inr ⟨id, rfl, rfl⟩, hx, hes.trans hext, hrs.dom, k2⟩
  -- the state behind the loop
  have behind : ∀ {D : Nat} {W : World} {μ m' e}, w.heap.size ≤ D → W.heap[D]? = some (.deferred (some [])) → Ext nk μ0 μ → Dom μ m'.length → NoMap m' → RepM F w0 μ m' W → Q e σ m' →
      Pt rd nt n0 F w0 μ0 a.defers Q e { a with defers := { target := .collected D, args := #[] } :: a.defers } W := fun {D W μ m' e} hD hH e1 e2 e3 e4 hq => by
    have hFD : F D := hr.mem.up D (Nat.le_trans hr.mem.size hD)
    have hDlt : D < W.heap.size := (Array.getElem?_eq_some_iff.1 hH).1
    refine ⟨fun k => F k ∧ k ≠ D, W, μ, σ, m', ⟨e4.os, e4.tape, e4.output, e4.size, fun k hk => hk.1, e4.frame, fun d hd => ?_, .inl hrd⟩, fun id hid => e1 id (by omega), ⟨hr.nt, ⟨fun d hd => ?_, ?_⟩, hsl e1, ?_, e2⟩, hq⟩
    · rcases List.mem_cons.1 hd with rfl | hd
      · exact .inr ⟨D, rfl, hFD⟩
      · exact .inl hd
    · rcases List.mem_cons.1 hd with rfl | hd
      · exact ⟨D, rfl, fun h => h.2 rfl, hH⟩
      · obtain ⟨D', h1, h2, h3⟩ := hr.defers.all d hd
        exact ⟨D', h1, fun h => h2 h.1, (e4.frame D' h2).trans h3⟩
    · refine List.nodup_cons.2 ⟨fun hd => ?_, hr.defers.nd⟩
      obtain ⟨D', h1, h2, _⟩ := hr.defers.all _ hd
      cases h1
      exact h2 hFD
    · refine ⟨rfl, rfl, rfl, Nat.le_refl _, fun _ _ => rfl, ⟨fun k hk => ⟨e4.up k (Nat.le_trans e4.size hk), by omega⟩, e4.now fun k hk => hk.1⟩, fun id b hb => ?_, e4.excl⟩
      obtain ⟨L, h1, h2, h3⟩ := e4.blk id b hb
      refine ⟨L, h1, h2, fun hrw => ⟨h3 hrw, ?_⟩⟩
      rintro rfl
      obtain ⟨c, e', lo, hi, hh, _⟩ := (h2.row (.inl (h2.rw hrw.1)) (.inl hrw)).row (e3 id b hb)
      rw [hH] at hh
      cases hh
  subst hrd
  refine wpIn_rangeFunc_ownH (F := fw none) (n := 3) rfl (by decide) (gf := gf) (lb := ys) hev trivial (fun args w => run_callFunc args w) (Kp := fun W W' => RepO (fun i => μ0 (g0 i)) mc W → RepO (fun i => μ0 (g0 i)) mc W') hseq (fun h k q => k (h q)) (fun W l o o' _ hl ho _ hq => ?_) (Below.refl _ _) (fun x => by show x.val.2.size = _; rw [x.property.1, henc x.val.1]) I Ix hI hIx h0 Ax hAx
    (fun l pre x W K hIp hK => has l pre x W K hIp hK) (fun l pre x a' W _ _ hIp hA hlt => hbd l pre x a' W hIp hA hlt) (fun D xs W hD hS ⟨μ, e1, e2, e3, e4⟩ hH => ?_) (fun D c pre W hD _ ⟨e, m', μ, hc, hx, e1, e2, e3⟩ hH => ?_)
  · refine hq.keep hro fun k c e p hk _ => ?_
    rw [World.putObj_heap_other]
    rintro rfl
    rw [hl] at hk
    cases hk
    cases ho
  · have hS' : pr xs = List.finRange N := hS
    rw [hS'] at e2 e3 e4
    exact behind hD hH e1 e2 (hB _).2.1 e3 (hdone e4)
  · rcases hc with ⟨rfl, rfl⟩ | ⟨id, rfl, rfl⟩
    · exact wpIn_ret (behind hD hH e1 e2 (hX _ _ hx) e3 (hstop _ _ hx))
    · exact wpIn_exit (behind hD hH e1 e2 (hX _ _ hx) e3 (hstop _ _ hx))
end Go.Proofs.YtdenooeaiicheaaGreat.Av
