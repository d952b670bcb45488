/- Walking in numbers of one's own: a range over a function that may be left early. -/
import Derived.Test.YtdenooeaiicheaaGreatVT
set_option linter.unusedVariables false
set_option linter.unusedSimpArgs false
namespace Go.Proofs.YtdenooeaiicheaaGreat.Av
open Go
open Go.RowKit (Below)
/-- An iterator over N things that says what has come (St) when it is stopped: what it has captured lies in the blocks mc, which are only read. -/
structure ItP (P : Program) (gf : FuncId) (caps : List Value) (mc : Mem) (N : Nat) (encs : Fin N → List Value) (St : List (Fin N) → Prop) : Prop where
  ro : Ro mc
  ok : ∀ (μ : Mu) (w : World) (ys : Array Value), Dom μ mc.length → RepO μ mc w → ys.size = caps.length → (∀ (i : Nat) x y, caps[i]? = some x → ys[i]? = some y → VR μ x y) →
    SeqStopsK (fw none) 2 P gf ys (fun x : ItX μ N encs => x.val.2) (fun W W' => RepO μ mc W → RepO μ mc W') (fun xs => pr xs = List.finRange N) (fun xs => St (pr xs)) N w
/-- A range over a function that may be left early. -/
theorem aw_rangeP {P : Program} {nt n0 : Nat} {Q : Exit → Slots → Mem → Prop} {σ : Slots} {gf : FuncId} [FnI P gf] {t : Nat} {ps : Array Tmp} {assign body : Code} {caps : List Value} {capsV : Array Value} {mc : Mem} {N : Nat} {encs : Fin N → List Value}
    (nk nb : Nat) (g0 : Nat → Nat) (B : List (Fin N) → Mem) (R : List (Fin N) → Prop) (Sx : Fin N → Slots) (X : List (Fin N) → Exit → Mem → Prop) {St : List (Fin N) → Prop}
    (hit : ItP P gf caps mc N encs St) (hg : look σ t = some (.func (.func gf) #[] capsV)) (hcap : capsV.toList = renL g0 caps) (hR : R [])
    (hn : n0 ≤ nk) (hnk : nk ≤ nb) (hg0 : ∀ i, i < mc.length → g0 i < nk) (hσ : ltS nk σ = true) (hSx : ∀ x, ltS nk (Sx x) = true)
    (hra : noRF assign = true) (hrb : noRF body = true) (hps : ∀ p ∈ ps.toList, p < nt) (henc : ∀ x, (encs x).length = ps.size)
    (hB : ∀ pre, (B pre).length = nb ∧ NoMap (B pre) ∧ Renum 0 g0 (B pre) mc)
    (hX : ∀ l e m', X l e m' → NoMap m')
    (hassign : ∀ pre x, AW P nt nk assign (fun e σ' m' => e = .normal ∧ Fits nk (Sx x) (B pre) σ' m') (putE ps.toList (renL g0 (encs x)) σ) (B pre))
    (hbody : ∀ pre x, R pre → pre.length < N → AW P nt nk body (fun e σ' m' => (e = .normal ∧ Fits nk [] (B (pre ++ [x])) σ' m' ∧ R (pre ++ [x])) ∨ ((e = .ret ∨ ∃ id, e = .exit id) ∧ X (pre ++ [x]) e m')) (Sx x) (B pre))
    (hdone : R (List.finRange N) → Q .normal σ (B (List.finRange N))) (hstop : ∀ l e m', St l → X l e m' → Q e σ m') :
    AW P nt n0 (.rangeFunc (.tmp t) ps assign body) Q σ (B []) := by
  constructor
  intro rd F w0 μ0 a w hd hr
  have hrd : rd = none := hd.resolve_right (by simp [noRF])
  -- the iterator, as it stands
  have hve := ev_ok hr.slots (x := .tmp t) hg
  obtain ⟨ys, hys⟩ : ∃ ys, a.eval (.tmp t) = .func (.func gf) #[] ys ∧ ys.size = caps.length ∧ ∀ (i : Nat) x y, caps[i]? = some x → ys[i]? = some y → VR (fun i => μ0 (g0 i)) x y := by
    generalize a.eval (.tmp t) = v at hve
    cases hve with
    | func s1 r1 s2 r2 =>
      rename_i x' y'
      have hx : x' = #[] := Array.eq_empty_of_size_eq_zero (by simpa using s1.symm)
      subst hx
      have hl : capsV.size = caps.length := by
        have := congrArg List.length hcap
        rw [renL_eq] at this
        simpa using this
      refine ⟨y', rfl, by rw [← s2, hl], fun i x y hx hy => ?_⟩
      have hi : capsV[i]? = some (ren g0 x) := by
        rw [← Array.getElem?_toList, hcap, renL_eq, List.getElem?_map, hx]
        rfl
      exact (r2 i _ _ hi hy).ren
  obtain ⟨hev, hyl, hyv⟩ := hys
  have hmc : ∀ {μ : Mu}, Ext nk μ0 μ → Dom μ nb → (fun i => μ (g0 i)) = fun i => μ0 (g0 i) := fun {μ} he hdm => by
    funext i
    rcases Nat.lt_or_ge i mc.length with h | h
    · exact he _ (hg0 i h)
    · have h1 := (hB []).2.2.dom (μ := μ) (by rw [(hB []).1]; exact hdm) i h
      have h2 := (hB []).2.2.dom (μ := μ0) hr.dom i h
      dsimp only at h1 h2
      rw [h1, h2]
  have hro := hit.ro
  have hrepO : ∀ {F' w' μ W pre}, Ext nk μ0 μ → Dom μ (B pre).length → RepM F' w' μ (B pre) W → RepO (fun i => μ0 (g0 i)) mc W := fun {F' w' μ W pre} he hdm hm => by
    have := (hm.renum (hB pre).2.2).repO
    rwa [hmc he (by rw [← (hB pre).1]; exact hdm)] at this
  have hseq := hit.ok (fun i => μ0 (g0 i)) w ys ((hB []).2.2.dom hr.dom) (hrepO (Ext.refl _ _) hr.dom hr.mem) hyl hyv
  -- what holds between two rounds
  let I : List (ItX (fun i => μ0 (g0 i)) N encs) → World → Prop := fun pre W => ∃ μ, Ext nk μ0 μ ∧ Dom μ (B (pr pre)).length ∧ RepM F w0 μ (B (pr pre)) W ∧ R (pr pre)
  let Ix : Code → List (ItX (fun i => μ0 (g0 i)) N encs) → World → Prop := fun c xs W => ∃ e m' μ, ((e = .ret ∧ c = .ret) ∨ ∃ id, e = .exit id ∧ c = .exit id) ∧ X (pr xs) e m' ∧ Ext nk μ0 μ ∧ Dom μ m'.length ∧ RepM F w0 μ m' W
  let Ax : ItX (fun i => μ0 (g0 i)) N encs → Act → World → Prop := fun x a' _ => a'.tmps.size = nt ∧ a'.defers = [] ∧ SlotsOK (restr μ0 nk) (Sx x.val.1) a'
  have hI : OwnFrom w.heap.size I := fun pre W W' row ⟨μ, h1, h2, h3, h4⟩ hg hrow => ⟨μ, h1, h2, h3.grown (hB (pr pre)).2.1 hr.mem.size hg hrow, h4⟩
  have hIx : ∀ c, OwnFrom w.heap.size (Ix c) := fun c pre W W' row ⟨e, m', μ, h0, h1, h2, h3, h4⟩ hg hrow => ⟨e, m', μ, h0, h1, h2, h3, h4.grown (hX _ e m' h1) hr.mem.size hg hrow⟩
  have h0 : I [] w := ⟨μ0, Ext.refl _ _, hr.dom, hr.mem, hR⟩
  -- what a step of a round keeps
  have keeps : ∀ {rd' μ} {pre : List (ItX (fun i => μ0 (g0 i)) N encs)} {W μ' m' W' F' w0' l'}, RepM F w0 μ (B (pr pre)) W → Reb rd' (Fr μ (B (pr pre)) W) W [] F' w0' l' → RepM F' w0' μ' m' W' → KeepsFrom w.heap.size W W' ∧ RepM F w0 μ' m' W' := fun {rd' μ pre W μ' m' W' F' w0' l'} hm hreb hm' => by
    obtain ⟨hg1, hg2⟩ := hm.ground (rd := rd')
    have hm2 := hm'.unreb hreb hg1.up
    refine ⟨⟨hm2.size, fun k o _ ho hc => ?_⟩, hm2.unreb hg2 hm.up⟩
    rw [hm2.frame k (Fr.cells hm (hB (pr pre)).2.1 ho hc)]
    exact ho
  have hkc : ∀ {W μ' pre' W' F2 w2}, Ext nk μ0 μ' → Dom μ' (B pre').length → RepM F2 w2 μ' (B pre') W' → RepO (fun i => μ0 (g0 i)) mc W → RepO (fun i => μ0 (g0 i)) mc W' := fun {W μ' pre' W' F2 w2} e2 d2 h2 _ => hrepO e2 d2 h2
  have hsl : ∀ {μ}, Ext nk μ0 μ → SlotsOK μ σ a := fun {μ} he => (hr.slots.lt hσ).mono (restr_to he)
  have has : ∀ (l : Nat) (pre : List (ItX (fun i => μ0 (g0 i)) N encs)) (x : ItX (fun i => μ0 (g0 i)) N encs) (W : World) (K : Act → World → Prop), I pre W → (∀ a' W', KeepsFrom w.heap.size W W' → (RepO (fun i => μ0 (g0 i)) mc W → RepO (fun i => μ0 (g0 i)) mc W') → I pre W' → Ax x a' W' → K a' W') →
      assign.wpIn (fw (some l)) 1 P (Exit.then K (fun _ _ _ => False)) { tmps := (ps.zip x.val.2).foldl (fun t (p, v) => t.setIfInBounds p v) a.tmps, defers := [] } W := fun l pre x W K ⟨μ, e1, e2, e3, e4⟩ hK => by
    have hg1 := (e3.ground (rd := some l)).1
    have hev2 : ∀ (i : Nat) u v, (renL g0 (encs x.val.1))[i]? = some u → x.val.2.toList[i]? = some v → VR μ u v := fun i u v h1 h2 => by
      rw [renL_eq, List.getElem?_map] at h1
      cases hx : (encs x.val.1)[i]? with
      | none => rw [hx] at h1; cases h1
      | some q =>
        rw [hx] at h1
        cases h1
        have := x.property.2 i q v hx (by rw [← Array.getElem?_toList]; exact h2)
        rw [← hmc e1 (by rw [← (hB (pr pre)).1]; exact e2)] at this
        exact this.renTo
    have hp := putE_okV (μ := μ) ps.toList x.val.2.toList (renL g0 (encs x.val.1)) σ a (fun p hp => by rw [hr.nt]; exact hps p hp) (by rw [renL_eq, List.length_map, ← x.property.1, Array.length_toList]) hev2 (hsl e1)
    rw [← zip_arr] at hp
    refine wpIn_n (wpIn_mono ((hassign (pr pre) x.val.1).wp (some l) (Fr μ (B (pr pre)) W) W μ _ W (.inr hra) ⟨hp.2.trans hr.nt, DefOK.nil, hp.1, hg1, e2⟩) ?_)
    rintro e a' W' ⟨F', w0', μ', σ', m', hreb, hext, hrs, rfl, hfit⟩
    obtain ⟨g, hren, hslots⟩ := hfit.ex
    obtain ⟨k1, k2⟩ := keeps e3 hreb hrs.mem
    have hmr := k2.renum hren
    have hext2 : Ext nk μ0 (fun i => μ' (g i)) := e1.trans (hext.trans hren.ext)
    refine hK a' W' k1 (hkc hext2 (hren.dom hrs.dom) hmr) ⟨_, hext2, hren.dom hrs.dom, hmr, e4⟩ ⟨hrs.nt, ?_, ?_⟩
    · rcases hreb.rnd with h | h
      · cases h
      · exact h
    · have hs2 : SlotsOK (fun i => μ' (g i)) (Sx x.val.1) a' := fun t v ht => by
        obtain ⟨u, h1, h2⟩ := hslots t v ht
        exact ⟨(hrs.slots t u h1).1, (h2.vr (hrs.slots t u h1).2).ren⟩
      have := hs2.lt (hSx x.val.1)
      rwa [restr_ext hext2] at this
  have hbd : ∀ (l : Nat) (pre : List (ItX (fun i => μ0 (g0 i)) N encs)) (x : ItX (fun i => μ0 (g0 i)) N encs) (a' : Act) (W : World), I pre W → Ax x a' W → pre.length < N → body.wpIn (fw (some l)) 1 P (ownPostG w.heap.size (fun W W' => RepO (fun i => μ0 (g0 i)) mc W → RepO (fun i => μ0 (g0 i)) mc W') I Ix (pre ++ [x]) W) a' W := fun l pre x a' W ⟨μ, e1, e2, e3, e4⟩ ⟨x1, x2, x3⟩ hlt => by
    have hg1 := (e3.ground (rd := some l)).1
    refine wpIn_n (wpIn_mono ((hbody (pr pre) x.val.1 e4 (by rw [pr_len]; exact hlt)).wp (some l) (Fr μ (B (pr pre)) W) W μ a' W (.inr hrb) ⟨x1, by rw [x2]; exact DefOK.nil, x3.mono (restr_to e1), hg1, e2⟩) ?_)
    rintro e a'' W' ⟨F', w0', μ', σ', m', hreb, hext, hrs, hq⟩
    rw [x2] at hreb
    obtain ⟨k1, k2⟩ := keeps e3 hreb hrs.mem
    rcases hq with ⟨rfl, hfit, hR'⟩ | ⟨he, hx⟩
    · rw [← pr_snoc pre x] at hfit hR'
      obtain ⟨g, hren, _⟩ := hfit.ex
      have hmr := k2.renum hren
      have hext2 : Ext nk μ0 (fun i => μ' (g i)) := e1.trans (hext.trans hren.ext)
      exact ⟨k1, hkc hext2 (hren.dom hrs.dom) hmr, _, hext2, hren.dom hrs.dom, hmr, hR'⟩
    · rw [← pr_snoc pre x] at hx
      rcases he with rfl | ⟨id, rfl⟩
      · exact ⟨k1, .ret, m', μ', .inl ⟨rfl, rfl⟩, hx, e1.trans hext, hrs.dom, k2⟩
      · exact ⟨k1, .exit id, m', μ', .inr ⟨id, rfl, rfl⟩, hx, e1.trans hext, hrs.dom, k2⟩
  -- the state behind the loop
  have behind : ∀ {D : Nat} {W : World} {μ m' e}, w.heap.size ≤ D → W.heap[D]? = some (.deferred (some [])) → Ext nk μ0 μ → Dom μ m'.length → NoMap m' → RepM F w0 μ m' W → Q e σ m' →
      Pt rd nt n0 F w0 μ0 a.defers Q e { a with defers := { target := .collected D, args := #[] } :: a.defers } W := fun {D W μ m' e} hD hH e1 e2 e3 e4 hq => by
    have hFD : F D := hr.mem.up D (Nat.le_trans hr.mem.size hD)
    have hDlt : D < W.heap.size := (Array.getElem?_eq_some_iff.1 hH).1
    refine ⟨fun k => F k ∧ k ≠ D, W, μ, σ, m', ⟨e4.os, e4.tape, e4.output, e4.size, fun k hk => hk.1, e4.frame, fun d hd => ?_, .inl hrd⟩, fun id hid => e1 id (by omega), ⟨hr.nt, ⟨fun d hd => ?_, ?_⟩, hsl e1, ?_, e2⟩, hq⟩
    · rcases List.mem_cons.1 hd with rfl | hd
      · exact .inr ⟨D, rfl, hFD⟩
      · exact .inl hd
    · rcases List.mem_cons.1 hd with rfl | hd
      · exact ⟨D, rfl, fun h => h.2 rfl, hH⟩
      · obtain ⟨D', h1, h2, h3⟩ := hr.defers.all d hd
        exact ⟨D', h1, fun h => h2 h.1, (e4.frame D' h2).trans h3⟩
    · refine List.nodup_cons.2 ⟨fun hd => ?_, hr.defers.nd⟩
      obtain ⟨D', h1, h2, _⟩ := hr.defers.all _ hd
      cases h1
      exact h2 hFD
    · refine ⟨rfl, rfl, rfl, Nat.le_refl _, fun _ _ => rfl, ⟨fun k hk => ⟨e4.up k (Nat.le_trans e4.size hk), by omega⟩, e4.now fun k hk => hk.1⟩, fun id b hb => ?_, e4.excl⟩
      obtain ⟨L, h1, h2, h3⟩ := e4.blk id b hb
      refine ⟨L, h1, h2, fun hrw => ⟨h3 hrw, ?_⟩⟩
      rintro rfl
      obtain ⟨c, e', lo, hi, hh, _⟩ := (h2.row (.inl (h2.rw hrw.1)) (.inl hrw)).row (e3 id b hb)
      rw [hH] at hh
      cases hh
  subst hrd
  refine wpIn_rangeFunc_ownH (F := fw none) (n := 3) rfl (by decide) (gf := gf) (lb := ys) hev trivial (fun args w => run_callFunc args w) (Kp := fun W W' => RepO (fun i => μ0 (g0 i)) mc W → RepO (fun i => μ0 (g0 i)) mc W') hseq (fun h k q => k (h q)) (fun W l o o' _ hl ho _ hq => ?_) (Below.refl _ _) (fun x => by show x.val.2.size = _; rw [x.property.1, henc x.val.1]) I Ix hI hIx h0 Ax (fun x a' _ W W' row h _ _ => h)
    (fun l pre x W K hIp hK => has l pre x W K hIp hK) (fun l pre x a' W _ _ hIp hA hlt => hbd l pre x a' W hIp hA hlt) (fun D xs W hD hS ⟨μ, e1, e2, e3, e4⟩ hH => ?_) (fun D c pre W hD hSt ⟨e, m', μ, hc, hx, e1, e2, e3⟩ hH => ?_)
  · refine hq.keep hro fun k c e p hk _ => ?_
    rw [World.putObj_heap_other]
    rintro rfl
    rw [hl] at hk
    cases hk
    cases ho
  · have hS' : pr xs = List.finRange N := hS
    rw [hS'] at e2 e3 e4
    exact behind hD hH e1 e2 (hB _).2.1 e3 (hdone e4)
  · rcases hc with ⟨rfl, rfl⟩ | ⟨id, rfl, rfl⟩
    · exact wpIn_ret (behind hD hH e1 e2 (hX _ _ _ hx) e3 (hstop _ _ _ hSt hx))
    · exact wpIn_exit (behind hD hH e1 e2 (hX _ _ _ hx) e3 (hstop _ _ _ hSt hx))
/-- An iterator's contract out of its walk. -/
theorem itP_of {P : Program} {gf : FuncId} {fn : Func} {c : Code} {caps : List Value} {mc : Mem} {N : Nat} {encs : Fin N → List Value} {St : List (Fin N) → Prop} (hf : P.funcs[gf]? = some fn) (hb : fn.body = some c) (hn : Nat.ble (caps.length + 1) fn.ntmps = true) (hres : fn.results = #[]) (hro : Ro mc)
    (h : ∀ (μ : Mu) (l : Nat) (J Jx : List (ItX μ N encs) → World → Prop), YC P l μ mc J Jx → IW P fn.ntmps μ mc J Jx c (fun e σ m g xs => (e = .normal ∨ e = .ret) ∧ (g = true → pr xs = List.finRange N) ∧ (g = false → St (pr xs))) (argSlots 0 (.func (.yield l) #[] #[] :: caps)) (rdo mc) true []) : ItP P gf caps mc N encs St := by
  refine ⟨hro, fun μ w ys hdm hrep hys hv l J Jx W hW hJa hJxa hY h0 => ?_⟩
  have hrepW : RepO μ mc W := hrep.below hro hW
  have hyc : YC P l μ mc J Jx := ⟨hdm, hro, fun xs W W' hJ hg => hJa xs W W' none hJ hg (fun r e => by cases e), hY⟩
  have hn' := Nat.le_of_ble_eq_true hn
  have hsz : (#[Value.func (.yield l) #[] #[]] ++ ys).size = caps.length + 1 := by simp [hys]; omega
  refine callsIn_of_wp hf hb trivial (wpIn_mono ((h μ l J Jx hyc).wp _ W ⟨W, μ, fun _ => ⟨h0, by rw [rdo_len]; exact Nat.le_refl _, hrepW, Ext.refl _ _⟩, fun h => (by cases h), ⟨?_, DefOK.nil, fun t v ht => ?_, hrepW.rep, by rw [rdo_len]; exact hdm⟩, rfl⟩) ?_) rfl
  · simp [hys]; omega
  · obtain ⟨_, hq⟩ := look_args _ _ _ _ ht
    rw [Nat.sub_zero] at hq
    have hlt : t < caps.length + 1 := by have := (List.getElem?_eq_some_iff.1 hq).1; simpa using this
    refine ⟨by simp [hys]; omega, ?_⟩
    have hg : ((#[Value.func (.yield l) #[] #[]] ++ ys) ++ Array.replicate (fn.ntmps - (#[Value.func (.yield l) #[] #[]] ++ ys).size) undef).getD t undef = (#[Value.func (.yield l) #[] #[]] ++ ys)[t]'(by rw [hsz]; exact hlt) := by
      simp only [Array.getD]
      rw [dif_pos (by simp [hys]; omega)]
      exact Array.getElem_append_left (by rw [hsz]; exact hlt)
    dsimp only at hg ⊢
    rw [hg]
    cases t with
    | zero =>
      cases hq
      have e : (#[Value.func (.yield l) #[] #[]] ++ ys)[0]'(by rw [hsz]; exact hlt) = Value.func (.yield l) #[] #[] := by
        rw [Array.getElem_append_left (by simp)]
        rfl
      rw [e]
      exact VR.func (x := #[]) (x' := #[]) (y := #[]) (y' := #[]) rfl (fun i u v h _ => by simp at h) rfl (fun i u v h _ => by simp at h)
    | succ t =>
      have hq' : caps[t]? = some v := by simpa using hq
      have e : (#[Value.func (.yield l) #[] #[]] ++ ys)[t + 1]'(by rw [hsz]; exact hlt) = ys[t]'(by omega) := by
        rw [Array.getElem_append_right (by simp)]
        simp
      rw [e]
      exact hv t v _ hq' (Array.getElem?_eq_getElem (by omega))
  · rintro e a' W' ⟨σ, m, g, xs, hs, he, hg, hgf⟩
    obtain ⟨W0, μ', h1, h2, h3, h4⟩ := hs.ex
    have hgr : W0.grownBy W' none := ⟨h3.mem.os, h3.mem.tape, h3.mem.output, h3.mem.size, fun k hk _ => h3.mem.frame k (by omega)⟩
    have hpost : bodyPost P fn (fun e W' => (∃ v, e = .returned v) ∧ ((∃ xs, pr xs = List.finRange N ∧ J xs W') ∨ (∃ pre, St (pr pre) ∧ Jx pre W'))) .ret a' W' := by
      refine bodyPost_ret (results_none hres _ _ _) h4 ⟨⟨_, rfl⟩, ?_⟩
      cases g with
      | true => exact .inl ⟨xs, hg rfl, hJa xs W0 W' none (h1 rfl).1 hgr (fun r e => by cases e)⟩
      | false => exact .inr ⟨xs, hgf rfl, hJxa xs W0 W' none (h2 rfl) hgr (fun r e => by cases e)⟩
    rcases he with rfl | rfl
    · exact hpost
    · exact hpost
end Go.Proofs.YtdenooeaiicheaaGreat.Av
