/- Walking in numbers of one's own: operations, regions in the text's order, code, functions. -/
import Derived.Test.YtmmaolnjjjdecaaV1
set_option linter.unusedVariables false
set_option linter.unusedSimpArgs false
namespace Go.Proofs.Ytmmaolnjjjdecaa.Av
open Go.RowKit (Below)

abbrev Slots := List (Nat × Value)
def look : Slots → Nat → Option Value
  | [], _ => none
  | (k, v) :: l, t => cond (Nat.beq k t) (some v) (look l t)
def put (σ : Slots) : Option Tmp → Value → Slots
  | none, _ => σ
  | some d, v => (d, v) :: σ
def ev (σ : Slots) : Operand → Option Value
  | .tmp t => look σ t
  | .const v => cond (plain 4 v) (some v) none
  | .global _ => none
  | .func f => some (.func (.func f) #[] #[])
def SlotsOK (μ : Mu) (σ : Slots) (a : Act) : Prop := ∀ t v, look σ t = some v → t < a.tmps.size ∧ VR μ v (a.tmps.getD t undef)
structure RepS (nt : Nat) (F : Nat → Prop) (w0 : World) (μ : Mu) (σ : Slots) (m : Mem) (a : Act) (w : World) : Prop where
  nt : a.tmps.size = nt
  defers : a.defers = []
  slots : SlotsOK μ σ a
  mem : RepM F w0 μ m w
  dom : Dom μ m.length
theorem ev_ok {μ σ a} (h : SlotsOK μ σ a) {x : Operand} {v : Value} (hx : ev σ x = some v) : VR μ v (a.eval x) := by
  cases x with
  | tmp t => exact (h t v hx).2
  | const c =>
    simp only [ev] at hx
    cases hp : plain 4 c <;> rw [hp] at hx
    · cases hx
    · rw [cond_true, Option.some.injEq] at hx
      subst hx
      exact plain_refl μ 4 _ hp
  | global g => cases hx
  | func f => cases hx; exact .func rfl (fun i u v h _ => by simp at h) rfl (fun i u v h _ => by simp at h)
theorem SlotsOK.mono {μ μ' σ a} (h : SlotsOK μ σ a) (hm : ∀ id L, μ id = some L → μ' id = some L) : SlotsOK μ' σ a := fun t v ht => ⟨(h t v ht).1, (h t v ht).2.mono hm⟩
theorem SlotsOK.put {μ σ a} (h : SlotsOK μ σ a) {d : Option Tmp} {v y : Value} (hv : VR μ v y) (hd : ∀ t, d = some t → t < a.tmps.size) : SlotsOK μ (put σ d v) (a.put d y) := by
  cases d with
  | none => exact h
  | some d =>
    intro t u ht
    have hd := hd d rfl
    simp only [Av.put, look] at ht
    by_cases hdt : d = t
    · subst hdt
      simp only [show Nat.beq d d = true from Nat.beq_refl d, cond_true, Option.some.injEq] at ht
      subst ht
      exact ⟨by simpa [Act.put] using hd, by simpa [Act.put, hd] using hv⟩
    · have hb : Nat.beq d t = false := by
        cases hb : Nat.beq d t with
        | false => rfl
        | true => exact absurd (Nat.eq_of_beq_eq_true hb) hdt
      rw [hb] at ht
      obtain ⟨h1, h2⟩ := h t u ht
      exact ⟨by simpa [Act.put] using h1, by simpa [Act.put, hdt] using h2⟩

/-- What an operation does: it gives v, and leaves the blocks m'. -/
structure OpOK (P : Program) (o : Oper) (ρ : Operand → Option Value) (m : Mem) (v : Value) (m' : Mem) : Prop where
  ok : ∀ F w0 μ a w (K : Act → World → Prop) (Q : Exit → Act → World → Prop), Dom μ m.length → RepM F w0 μ m w → (∀ x u, x ∈ o.op.operands → ρ x = some u → VR μ u (a.eval x)) →
    (∀ μ' y w', Ext m.length μ μ' → Dom μ' m'.length → RepM F w0 μ' m' w' → VR μ' v y → K (a.put o.dst y) w') → o.wp P a w K Q
def Want (ops : Array Oper) (σ : Slots) (o : Oper) (b : Bool) : Prop :=
  match o.guard with
  | none => b = true
  | some (j, want) => ∃ d v, (ops[j]?).bind (·.dst) = some d ∧ look σ d = some v ∧ ((∃ c, v = .bool c ∧ b = (c == want)) ∨ (v = undef ∧ b = false))
/-- Of the slots σ0 no more than σ are wanted. -/
def Sub (σ σ0 : Slots) : Prop := ∀ t v, look σ t = some v → look σ0 t = some v
theorem Sub.refl (σ : Slots) : Sub σ σ := fun _ _ h => h
theorem SlotsOK.sub {μ σ σ0 a} (h : SlotsOK μ σ0 a) (hs : Sub σ σ0) : SlotsOK μ σ a := fun t v ht => h t v (hs t v ht)
/-- A region's operations one behind the other. -/
inductive Run (P : Program) (ops : Array Oper) (K : Slots → Mem → Prop) : List Oper → Slots → Mem → Prop
  | nil {σ σ0 m} : Sub σ σ0 → K σ m → Run P ops K [] σ0 m
  | yes {σ σ0 m o l v m'} : Sub σ σ0 → Want ops σ o true → m.length ≤ m'.length → OpOK P o (ev σ) m v m' → Run P ops K l (put σ o.dst v) m' → Run P ops K (o :: l) σ0 m
  | no {σ σ0 m o l} : Sub σ σ0 → Want ops σ o false → Run P ops K l (put σ o.dst undef) m → Run P ops K (o :: l) σ0 m
theorem yielded_undef {ops : Array Oper} {μ : Mu} {a : Act} {j d : Nat} (h1 : (ops[j]?).bind (·.dst) = some d) (k1 : d < a.tmps.size) (k2 : VR μ undef (a.tmps.getD d undef)) : yielded ops a.tmps j = none := by
  unfold yielded
  rw [h1]
  have e0 : a.tmps.getD d undef = a.tmps[d] := by simp [Array.getD, k1]
  rw [e0] at k2
  have : a.tmps[d]? = some a.tmps[d] := Array.getElem?_eq_getElem k1
  simp only [Option.bind_some, this]
  generalize a.tmps[d] = y at k2
  unfold undef at k2
  cases k2
  rfl
theorem want_ok {ops : Array Oper} {μ σ a o b} (h : SlotsOK μ σ a) (hw : Want ops σ o b) : Region.wanted o (yielded ops a.tmps) = b := by
  unfold Want at hw
  unfold Region.wanted
  cases hg : o.guard with
  | none => rw [hg] at hw; exact hw.symm
  | some g =>
    obtain ⟨j, want⟩ := g
    rw [hg] at hw
    obtain ⟨d, v, h1, h2, hv⟩ := hw
    obtain ⟨k1, k2⟩ := h d _ h2
    rcases hv with ⟨c, rfl, rfl⟩ | ⟨rfl, rfl⟩
    rotate_left
    · have hy : yielded ops a.tmps j = none := yielded_undef h1 k1 k2
      simp only [hy]
      rfl
    have e := k2.bool'
    have hy : yielded ops a.tmps j = some c := by
      unfold yielded
      rw [h1]
      have : a.tmps[d]? = some (.bool c) := by
        rw [Array.getElem?_eq_getElem k1, ← e]
        simp [Array.getD, k1]
      simp [this]
    simp only [hy]
    cases c <;> cases want <;> rfl
def dstsOK (nt : Nat) (ops : Array Oper) : Bool := ops.toList.all fun o => match o.dst with | none => true | some d => Nat.blt d nt
theorem Act.size_put (a : Act) (d : Option Tmp) (v : Value) : (a.put d v).tmps.size = a.tmps.size := by cases d <;> simp [Act.put]
theorem Act.defers_put (a : Act) (d : Option Tmp) (v : Value) : (a.put d v).defers = a.defers := by cases d <;> rfl
theorem vr_undef (μ : Mu) : VR μ undef undef := .tuple rfl fun i u v h _ => by simp at h
theorem run_sound {P : Program} {ops : Array Oper} {nt : Nat} {F w0} {Q : Exit → Act → World → Prop} {K : Slots → Mem → Prop} :
    ∀ (l : List Oper) (σ : Slots) (m : Mem) (μ : Mu) (a : Act) (w : World), (∀ o ∈ l, ∀ d, o.dst = some d → d < nt) → RepS nt F w0 μ σ m a w → Run P ops K l σ m →
      (∀ μ' σ' m' a' w', Ext m.length μ μ' → m.length ≤ m'.length → RepS nt F w0 μ' σ' m' a' w' → K σ' m' → Q .normal a' w') → wpList P ops Q l a w
  | [], σ0, m, μ, a, w, _, h, .nil (σ := σ) hs hr, hk => hk μ σ m a w (Ext.refl _ _) (Nat.le_refl _) ⟨h.nt, h.defers, h.slots.sub hs, h.mem, h.dom⟩ hr
  | o :: l, σ0, m, μ, a, w, hd, h0, hr, hk => by
    unfold wpList
    cases hr with
    | yes hsub hw hlen hop hr =>
      rename_i σ v m'
      have h : RepS nt F w0 μ σ m a w := ⟨h0.nt, h0.defers, h0.slots.sub hsub, h0.mem, h0.dom⟩
      rw [if_pos (want_ok h.slots hw)]
      refine .inl (hop.ok F w0 μ a w _ _ h.dom h.mem (fun x u _ hx => ev_ok h.slots hx) fun μ' y w' he hdm hm hv => ?_)
      refine run_sound l _ m' μ' _ w' (fun o' ho => hd o' (List.mem_cons_of_mem _ ho)) ⟨by rw [Act.size_put]; exact h.nt, by rw [Act.defers_put]; exact h.defers, (h.slots.mono (he.sub h.dom)).put hv fun t ht => by rw [h.nt]; exact hd o (List.mem_cons_self ..) t ht, hm, hdm⟩ hr
        fun μ'' σ'' m'' a'' w'' he' hl' => hk μ'' σ'' m'' a'' w'' (he.trans (he'.le hlen)) (Nat.le_trans hlen hl')
    | no hsub hw hr =>
      rename_i σ
      have h : RepS nt F w0 μ σ m a w := ⟨h0.nt, h0.defers, h0.slots.sub hsub, h0.mem, h0.dom⟩
      rw [if_neg (by rw [want_ok h.slots hw]; simp)]
      exact run_sound l _ m μ _ w (fun o' ho => hd o' (List.mem_cons_of_mem _ ho)) ⟨by rw [Act.size_put]; exact h.nt, by rw [Act.defers_put]; exact h.defers, h.slots.put (vr_undef _) fun t ht => by rw [h.nt]; exact hd o (List.mem_cons_self ..) t ht, h.mem, h.dom⟩ hr hk

/-- Code from a state on: the first n0 blocks keep their places. -/
structure AW (P : Program) (nt n0 : Nat) (c : Code) (Q : Exit → Slots → Mem → Prop) (σ : Slots) (m : Mem) : Prop where
  wp : ∀ F w0 μ a w, RepS nt F w0 μ σ m a w → c.wp P (fun e a' w' => ∃ μ' σ' m', Ext n0 μ μ' ∧ RepS nt F w0 μ' σ' m' a' w' ∧ Q e σ' m') a w
section
variable {P : Program} {nt n0 : Nat} {Q Q' : Exit → Slots → Mem → Prop} {σ : Slots} {m : Mem}
theorem AW.mono {c : Code} (h : AW P nt n0 c Q σ m) (hq : ∀ e σ m, Q e σ m → Q' e σ m) : AW P nt n0 c Q' σ m :=
  ⟨fun F w0 μ a w hr => wp_mono (h.wp F w0 μ a w hr) fun _ _ _ ⟨μ', σ', m', h1, h2, h3⟩ => ⟨μ', σ', m', h1, h2, hq _ _ _ h3⟩⟩
theorem aw_skip (h : Q .normal σ m) : AW P nt n0 .skip Q σ m := ⟨fun _ _ μ _ _ hr => wp_skip ⟨μ, σ, m, Ext.refl _ _, hr, h⟩⟩
theorem aw_exit {id : Nat} (h : Q (.exit id) σ m) : AW P nt n0 (.exit id) Q σ m := ⟨fun _ _ μ _ _ hr => wp_exit ⟨μ, σ, m, Ext.refl _ _, hr, h⟩⟩
theorem aw_ret (h : Q .ret σ m) : AW P nt n0 .ret Q σ m := ⟨fun _ _ μ _ _ hr => wp_ret ⟨μ, σ, m, Ext.refl _ _, hr, h⟩⟩
def ThenA (N : Slots → Mem → Prop) (Q : Exit → Slots → Mem → Prop) : Exit → Slots → Mem → Prop
  | .normal, σ, m => N σ m
  | e, σ, m => Q e σ m
theorem aw_seq {x y : Code} (h : AW P nt n0 x (ThenA (AW P nt n0 y Q) Q) σ m) : AW P nt n0 (.seq x y) Q σ m := ⟨fun F w0 μ a w hr =>
  wp_seq (wp_mono (h.wp F w0 μ a w hr) fun e a' w' ⟨μ', σ', m', h1, h2, h3⟩ => by
    have hpass : e ≠ .normal → Q e σ' m' → Exit.then (y.wp P fun e a' w' => ∃ μ' σ' m', Ext n0 μ μ' ∧ RepS nt F w0 μ' σ' m' a' w' ∧ Q e σ' m') (fun e a' w' => ∃ μ' σ' m', Ext n0 μ μ' ∧ RepS nt F w0 μ' σ' m' a' w' ∧ Q e σ' m') e a' w' := fun hne hq => by
      cases e <;> first | exact absurd rfl hne | exact ⟨μ', σ', m', h1, h2, hq⟩
    cases e with
    | normal => exact wp_mono (h3.wp F w0 μ' a' w' h2) fun _ _ _ ⟨μ2, σ2, m2, k1, k2, k3⟩ => ⟨μ2, σ2, m2, h1.trans k1, k2, k3⟩
    | _ => exact hpass (by simp) h3)⟩
theorem aw_cond {c : Operand} {x y : Code} {b : Bool} (hc : ev σ c = some (.bool b)) (h1 : b = true → AW P nt n0 x Q σ m) (h0 : b = false → AW P nt n0 y Q σ m) : AW P nt n0 (.cond c x y) Q σ m := ⟨fun F w0 μ a w hr =>
  wp_cond_split (ev_ok hr.slots hc).bool' (fun e => (h1 e).wp F w0 μ a w hr) (fun e => (h0 e).wp F w0 μ a w hr)⟩
def BlockA (id : Nat) (Q : Exit → Slots → Mem → Prop) : Exit → Slots → Mem → Prop
  | .exit k, σ, m => cond (Nat.beq k id) (Q .normal σ m) (Q (.exit k) σ m)
  | e, σ, m => Q e σ m
theorem aw_block {id : Nat} {c : Code} (h : AW P nt n0 c (BlockA id Q) σ m) : AW P nt n0 (.block id c) Q σ m := ⟨fun F w0 μ a w hr =>
  wp_block (wp_mono (h.wp F w0 μ a w hr) fun e a' w' ⟨μ', σ', m', h1, h2, h3⟩ => by
    cases e with
    | exit k =>
      simp only [BlockA] at h3
      simp only [Exit.inBlock]
      by_cases hk : k = id
      · subst hk
        rw [show Nat.beq k k = true from Nat.beq_refl k] at h3
        rw [if_pos rfl]
        exact ⟨μ', σ', m', h1, h2, h3⟩
      · have hb : Nat.beq k id = false := by
          cases hb : Nat.beq k id with
          | false => rfl
          | true => exact absurd (Nat.eq_of_beq_eq_true hb) hk
        rw [hb] at h3
        rw [if_neg hk]
        exact ⟨μ', σ', m', h1, h2, h3⟩
    | _ => exact ⟨μ', σ', m', h1, h2, h3⟩)⟩
/-- A loop: a relation I with a measure; a round ends in a state whose relation has a smaller measure. -/
theorem aw_loop {c : Code} (I : Nat → Slots → Mem → Prop) {k : Nat} (h0 : I k σ m) (hr : ∀ k σ m, I k σ m → AW P nt n0 c (ThenA (fun σ' m' => ∃ k', k' < k ∧ I k' σ' m') Q) σ m) : AW P nt n0 (.loop c) Q σ m := by
  constructor
  intro F w0 μ a w hR b K cs
  have key : ∀ n k, k = n → ∀ σ m μ1 a w, I k σ m → Ext n0 μ μ1 → RepS nt F w0 μ1 σ m a w →
      ∃ e a' w', (∃ μ' σ' m', Ext n0 μ μ' ∧ RepS nt F w0 μ' σ' m' a' w' ∧ Q e σ' m') ∧ Arrives P (lone (b.at a (.code c :: .inLoop c :: K)) cs w) b K cs e a' w' := by
    intro n
    induction n using Nat.strongRecOn with
    | _ n ih =>
      intro k hk σ m μ1 a w hI he hR
      obtain ⟨e, a₁, w₁, ⟨μ2, σ2, m2, j1, j2, j3⟩, harr⟩ := (hr k σ m hI).wp F w0 μ1 a w hR b (.inLoop c :: K) cs
      cases e with
      | normal =>
        obtain ⟨k', hlt, hI'⟩ := j3
        obtain ⟨e₂, a₂, w₂, hq₂, harr₂⟩ := ih k' (hk ▸ hlt) k' rfl σ2 m2 μ2 a₁ w₁ hI' (he.trans j1) j2
        exact ⟨e₂, a₂, w₂, hq₂, .of_steps (Steps.trans harr (.one step_inLoop)) harr₂⟩
      | _ => exact ⟨_, a₁, w₁, ⟨μ2, σ2, m2, he.trans j1, j2, j3⟩, .pass (x := .inLoop c) rfl (fun _ _ => .inl (by simp)) harr⟩
  obtain ⟨e, a', w', hq, harr⟩ := key k k rfl σ m μ a w h0 (Ext.refl _ _) hR
  exact ⟨e, a', w', hq, .of_steps (.one step_loop) harr⟩
/-- A loop's head, ahead of a round. -/
structure AWL (P : Program) (nt n0 : Nat) (c : Code) (Q : Exit → Slots → Mem → Prop) (σ : Slots) (m : Mem) : Prop where
  arr : ∀ F w0 μ a w, RepS nt F w0 μ σ m a w → ∀ b K cs, ∃ e a' w', (∃ μ' σ' m', Ext n0 μ μ' ∧ RepS nt F w0 μ' σ' m' a' w' ∧ Q e σ' m') ∧ Arrives P (lone (b.at a (.code c :: .inLoop c :: K)) cs w) b K cs e a' w'
theorem aw_loop_in {c : Code} (h : AWL P nt n0 c Q σ m) : AW P nt n0 (.loop c) Q σ m := ⟨fun F w0 μ a w hR b K cs => by
  obtain ⟨e, a', w', hq, harr⟩ := h.arr F w0 μ a w hR b K cs
  exact ⟨e, a', w', hq, .of_steps (.one step_loop) harr⟩⟩
theorem awl_round {c : Code} (h : AW P nt n0 c (ThenA (AWL P nt n0 c Q) Q) σ m) : AWL P nt n0 c Q σ m := ⟨fun F w0 μ a w hR b K cs => by
  obtain ⟨e, a₁, w₁, ⟨μ2, σ2, m2, j1, j2, j3⟩, harr⟩ := h.wp F w0 μ a w hR b (.inLoop c :: K) cs
  cases e with
  | normal =>
    obtain ⟨e₂, a₂, w₂, ⟨μ3, σ3, m3, k1, k2, k3⟩, harr₂⟩ := AWL.arr j3 F w0 μ2 a₁ w₁ j2 b K cs
    exact ⟨e₂, a₂, w₂, ⟨μ3, σ3, m3, j1.trans k1, k2, k3⟩, .of_steps (Steps.trans harr (.one step_inLoop)) harr₂⟩
  | _ => exact ⟨_, a₁, w₁, ⟨μ2, σ2, m2, j1, j2, j3⟩, .pass (x := .inLoop c) rfl (fun _ _ => .inl (by simp)) harr⟩⟩
theorem then_round {c : Code} (h : AW P nt n0 c (ThenA (AWL P nt n0 c Q) Q) σ m) : ThenA (AWL P nt n0 c Q) Q .normal σ m := awl_round h
theorem dstsOK_spec {ops : Array Oper} (h : dstsOK nt ops = true) : ∀ o ∈ ops.toList, ∀ d, o.dst = some d → d < nt := fun o ho d hd => by
  have := List.all_eq_true.1 h o ho
  simp only [hd] at this
  exact Nat.blt_eq.mp this
theorem aw_region {id : Nat} {ops : Array Oper} (hd : dstsOK nt ops = true) (hn : n0 ≤ m.length) (h : Run P ops (fun σ' m' => Q .normal σ' m') ops.toList σ m) : AW P nt n0 (.region id ops false) Q σ m := ⟨fun _ _ μ a w hr =>
  wp_region_list (run_sound ops.toList σ m μ a w (dstsOK_spec hd) hr h fun μ' σ' m' _ _ he _ hr' hq => ⟨μ', σ', m', he.le hn, hr', hq⟩)⟩
end
/-! ### functions -/
/-- A call of f with these arguments, these blocks: it returns r, and leaves the blocks m'. -/
structure ACalls (P : Program) (f : FuncId) (args : List Value) (m : Mem) (r : Value) (m' : Mem) : Prop where
  calls : ∀ F w0 μ w (ys : Array Value), Dom μ m.length → RepM F w0 μ m w → ys.size = args.length → (∀ (i : Nat) x y, args[i]? = some x → ys[i]? = some y → VR μ x y) →
    Calls P f ys w fun e w' => ∃ μ' y, e = .returned y ∧ Ext m.length μ μ' ∧ Dom μ' m'.length ∧ RepM F w0 μ' m' w' ∧ VR μ' r y
def argSlots : Nat → List Value → Slots
  | _, [] => []
  | k, v :: l => (k, v) :: argSlots (k + 1) l
theorem look_args : ∀ (l : List Value) (k t : Nat) (v : Value), look (argSlots k l) t = some v → k ≤ t ∧ l[t - k]? = some v
  | [], _, _, _, h => by cases h
  | u :: l, k, t, v, h => by
    simp only [argSlots, look] at h
    by_cases hk : k = t
    · subst hk
      simp only [show Nat.beq k k = true from Nat.beq_refl k, cond_true, Option.some.injEq] at h
      subst h
      exact ⟨Nat.le_refl _, by simp⟩
    · have hb : Nat.beq k t = false := by
        cases hb : Nat.beq k t with
        | false => rfl
        | true => exact absurd (Nat.eq_of_beq_eq_true hb) hk
      rw [hb] at h
      obtain ⟨h1, h2⟩ := look_args l (k + 1) t v h
      refine ⟨by omega, ?_⟩
      rw [show t - k = (t - (k + 1)) + 1 by omega, List.getElem?_cons_succ]
      exact h2
/-- The value that a function returns, out of its last state. -/
def ResOK (P : Program) : List ResultVar → Slots → Mem → List Value → Prop
  | [], _, _, vs => vs = []
  | .tmp t :: l, σ, m, vs => ∃ v vs', look σ t = some v ∧ vs = v :: vs' ∧ ResOK P l σ m vs'
  | .cell t ty :: l, σ, m, vs => ∃ id o B v vs', look σ t = some (.pointer (some ⟨id, o, none⟩)) ∧ live m id = some B ∧
      ((∃ d, P.underlying ty = some d ∧ (match d with | .struct _ => False | .array .. => False | _ => True) ∧ B.cells[o]? = some v) ∨
       (∃ d n, P.underlying ty = some d ∧ (match d with | .struct _ => True | .array .. => True | _ => False) ∧ (P.info? ty).map (·.size) = some n ∧ o + n ≤ B.cells.length ∧ v = .agg ((B.cells.drop o).take n).toArray)) ∧
      vs = v :: vs' ∧ ResOK P l σ m vs'
def retOf : List Value → Value
  | [v] => v
  | vs => .tuple vs.toArray
/-- Blocks are numbered anew, or let go: g says which old number a new one has; the first n0 stay. -/
def Renum (n0 : Nat) (g : Nat → Nat) (m m' : Mem) : Prop :=
  (∀ i, i < n0 → g i = i) ∧ n0 ≤ m'.length ∧ (∀ i, m'.length ≤ i → m.length ≤ g i) ∧
  (∀ i B, live m' i = some B → ∃ B', live m (g i) = some B' ∧ WkL B'.cells (renL g B.cells) ∧ B'.rw = B.rw ∧ B'.z = B.z) ∧
  (∀ i j B B', live m' i = some B → live m' j = some B' → i ≠ j → g i ≠ g j)
theorem VR.ren {μ : Mu} {g : Nat → Nat} : ∀ {x y : Value}, VR μ (ren g x) y → VR (fun i => μ (g i)) x y := by
  intro x y h
  generalize hx : Av.ren g x = x' at h
  induction h generalizing x with
  | func a b c d ih1 ih2 =>
    unfold Av.ren at hx
    split at hx
    case h_3 =>
      injection hx with e1 e2 e3
      subst e1
      rw [renA_eq] at e2 e3
      subst e2 e3
      exact .func (by simpa using a) (fun i u v hu hv => ih1 i _ _ (by simp [hu]) hv rfl) (by simpa using c) (fun i u v hu hv => ih2 i _ _ (by simp [hu]) hv rfl)
    all_goals first | (cases hx; done) | (subst hx; exfalso; rename_i hh _ _ _; first | exact hh _ _ _ rfl | (simp_all; done))
  | iface a ih =>
    unfold Av.ren at hx
    split at hx
    case h_4 =>
      injection hx with e1 e2
      subst e1
      exact .iface (ih e2)
    all_goals first | (cases hx; done) | (subst hx; exfalso; simp_all; done)
  | agg a b ih =>
    unfold Av.ren at hx
    split at hx
    case h_5 =>
      injection hx with e1
      rw [renA_eq] at e1
      subst e1
      exact .agg (by simpa using a) fun i u v hu hv => ih i _ _ (by simp [hu]) hv rfl
    all_goals first | (cases hx; done) | (subst hx; exfalso; simp_all; done)
  | tuple a b ih =>
    unfold Av.ren at hx
    split at hx
    case h_6 =>
      injection hx with e1
      rw [renA_eq] at e1
      subst e1
      exact .tuple (by simpa using a) fun i u v hu hv => ih i _ _ (by simp [hu]) hv rfl
    all_goals first | (cases hx; done) | (subst hx; exfalso; simp_all; done)
  | ptr hL =>
    unfold Av.ren at hx
    split at hx
    case h_1 a =>
      obtain ⟨i, o, s⟩ := a
      simp only [Value.pointer.injEq, Option.some.injEq, Addr.mk.injEq] at hx
      obtain ⟨rfl, rfl, rfl⟩ := hx
      exact .ptr hL
    all_goals first | (cases hx; done) | (subst hx; exfalso; simp_all; done)
  | slc hL a b c d =>
    unfold Av.ren at hx
    split at hx
    case h_2 a _ _ =>
      obtain ⟨i, o, s⟩ := a
      simp only [Value.slice.injEq, Option.some.injEq, Addr.mk.injEq] at hx
      obtain ⟨⟨rfl, rfl, rfl⟩, rfl, rfl⟩ := hx
      exact .slc hL a b c d
    all_goals first | (cases hx; done) | (subst hx; exfalso; simp_all; done)
  | slcNil =>
    unfold Av.ren at hx
    split at hx
    case h_2 a _ _ =>
      obtain ⟨i, o, s⟩ := a
      simp only [Value.slice.injEq, Option.some.injEq, Addr.mk.injEq] at hx
      obtain ⟨⟨rfl, rfl, rfl⟩, rfl, rfl⟩ := hx
      exact .slcNil
    all_goals first | (cases hx; done) | (subst hx; exfalso; simp_all; done)
  | bool b => unfold Av.ren at hx; split at hx <;> first | (cases hx; done) | (subst hx; exact .bool _)
  | int k n => unfold Av.ren at hx; split at hx <;> first | (cases hx; done) | (subst hx; exact .int _ _)
  | string s => unfold Av.ren at hx; split at hx <;> first | (cases hx; done) | (subst hx; exact .string _)
  | pnil => unfold Av.ren at hx; split at hx <;> first | (cases hx; done) | (subst hx; exact .pnil)
  | snil => unfold Av.ren at hx; split at hx <;> first | (cases hx; done) | (subst hx; exact .snil)
  | fnil => unfold Av.ren at hx; split at hx <;> first | (cases hx; done) | (subst hx; exact .fnil)
  | inil => unfold Av.ren at hx; split at hx <;> first | (cases hx; done) | (subst hx; exact .inil)
  | mnil => unfold Av.ren at hx; split at hx <;> first | (cases hx; done) | (subst hx; exact .mnil)
theorem RepM.renum {F w0 μ m w} (h : RepM F w0 μ m w) {n0 : Nat} {g : Nat → Nat} {m' : Mem} (hg : Renum n0 g m m') : RepM F w0 (fun i => μ (g i)) m' w where
  os := h.os
  tape := h.tape
  output := h.output
  size := h.size
  frame := h.frame
  up := h.up
  blk i B hB := by
    obtain ⟨B', h1, h2, h3, h4⟩ := hg.2.2.2.1 i B hB
    obtain ⟨L, k1, k2, k3⟩ := h.blk _ B' h1
    refine ⟨L, k1, ⟨fun hr => k2.rw (h3.trans hr), k2.z.trans h4, fun j x hx => ?_, fun hr hb => k2.row hr (hb.of (fun h => h3.trans h) h2.ne)⟩, fun hr => k3 (hr.of fun h => h3.trans h)⟩
    obtain ⟨u, hu, hw⟩ := h2.get hx
    obtain ⟨y, j1, j2⟩ := k2.cells j u hu
    exact ⟨y, j1, (hw.vr j2).ren⟩
  excl i j B B' L L' h1 h2 hne hl hl' hr hb := by
    obtain ⟨B1, a1, a2, a3, a4⟩ := hg.2.2.2.1 i B h1
    obtain ⟨B2, b1, b2, b3, b4⟩ := hg.2.2.2.1 j B' h2
    refine h.excl (g i) (g j) B1 B2 L L' a1 b1 (hg.2.2.2.2 i j B B' h1 h2 hne) hl hl' (hr.of fun h => a3.trans h) (hb.of (fun h => b3.trans h) b2.ne)
theorem Renum.ext {μ : Mu} {n0 g m m'} (hg : Renum n0 g m m') : Ext n0 μ (fun i => μ (g i)) := fun i hi => congrArg μ (hg.1 i hi)
theorem Renum.dom {μ : Mu} {n0 g m m'} (hg : Renum n0 g m m') (hd : Dom μ m.length) : Dom (fun i => μ (g i)) m'.length := fun i hi => hd _ (hg.2.2.1 i hi)
/-- A state is written in another way: slots are let go, blocks are numbered anew. -/
theorem aw_renum {P : Program} {nt n0 : Nat} {Q : Exit → Slots → Mem → Prop} {σ σ' : Slots} {m m' : Mem} {c : Code} (g : Nat → Nat) (hg : Renum n0 g m m') (hs : ∀ t v, look σ' t = some v → ∃ u, look σ t = some u ∧ Wk u (ren g v))
    (h : AW P nt n0 c Q σ' m') : AW P nt n0 c Q σ m := ⟨fun F w0 μ a w hr =>
  wp_mono (h.wp F w0 (fun i => μ (g i)) a w ⟨hr.nt, hr.defers, fun t v ht => let ⟨u, h1, h2⟩ := hs t v ht; ⟨(hr.slots t _ h1).1, (h2.vr (hr.slots t _ h1).2).ren⟩, hr.mem.renum hg, hg.dom hr.dom⟩)
    fun _ _ _ ⟨μ', σ', m', h1, h2, h3⟩ => ⟨μ', σ', m', hg.ext.trans h1, h2, h3⟩⟩
/-- A block of no room is added. -/
theorem aw_ghost {P : Program} {nt n0 : Nat} {Q : Exit → Slots → Mem → Prop} {σ : Slots} {m : Mem} {c : Code} (z : Nat) (hn : Nat.ble n0 m.length = true) (h : AW P nt n0 c Q σ (m ++ [some ⟨[], true, z⟩])) : AW P nt n0 c Q σ m := ⟨fun F w0 μ a w hr =>
  wp_mono (h.wp F w0 (μ.set m.length ⟨0, 0, 0, z, true⟩) a w ⟨hr.nt, hr.defers, hr.slots.mono (Mu.set_sub (hr.dom _ (Nat.le_refl _))), hr.mem.ghost hr.dom z, by simpa using Mu.set_dom hr.dom⟩)
    fun _ _ _ ⟨μ', σ', m', h1, h2, h3⟩ => ⟨μ', σ', m', (Mu.set_ext.le (Nat.le_of_ble_eq_true hn)).trans h1, h2, h3⟩⟩
/-- The same ahead of an operation. -/
theorem OpOK.ghost {P : Program} {o : Oper} {ρ : Operand → Option Value} {m m' : Mem} {v : Value} (z : Nat) (h : OpOK P o ρ (m ++ [some ⟨[], true, z⟩]) v m') : OpOK P o ρ m v m' := ⟨fun F w0 μ a w K Q hd hm ho hk =>
  h.ok F w0 (μ.set m.length ⟨0, 0, 0, z, true⟩) a w K Q (by simpa using Mu.set_dom hd) (hm.ghost hd z) (fun x u hx hu => (ho x u hx hu).mono (Mu.set_sub (hd _ (Nat.le_refl _))))
    fun μ' y w' he hd' hm' hv => hk μ' y w' (Mu.set_ext.trans (he.le (by simp))) hd' hm' hv⟩
end Go.Proofs.Ytmmaolnjjjdecaa.Av
