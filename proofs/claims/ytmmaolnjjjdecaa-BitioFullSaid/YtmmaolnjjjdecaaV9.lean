/- Walking in numbers of one's own: steps, calls, functions. -/
import Derived.Test.YtmmaolnjjjdecaaV8
set_option linter.unusedVariables false
set_option linter.unusedSimpArgs false
namespace Go.Proofs.Ytmmaolnjjjdecaa.Av
section
variable {P : Program} {ops : Array Oper} {l : List Oper} {σ : Slots} {m m' : Mem} {K : Slots → Mem → Prop} {d : Option Tmp} {t : TypeId} {pp : String} {af : Array Edge}
theorem run_nil (h : K σ m) : Run P ops K [] σ m := .nil (Sub.refl σ) h
theorem Sub.trans {a b c : Slots} (h : Sub a b) (k : Sub b c) : Sub a c := fun t v x => k t v (h t v x)
theorem Sub.cons {a b : Slots} (h : Sub a b) (d : Tmp) (v : Value) : Sub ((d, v) :: a) ((d, v) :: b) := fun t u x => by
  simp only [look] at x ⊢
  cases hb : Nat.beq d t with
  | false => rw [hb] at x; exact h t u x
  | true => rw [hb] at x; exact x
theorem Sub.put {a b : Slots} (h : Sub a b) (d : Option Tmp) (v : Value) : Sub (Av.put a d v) (Av.put b d v) := by
  cases d with
  | none => exact h
  | some d => exact h.cons d v
theorem Sub.ev {a b : Slots} (h : Sub a b) {x : Operand} {v : Value} (hx : Av.ev a x = some v) : Av.ev b x = some v := by
  cases x with
  | tmp t => exact h t v hx
  | _ => exact hx
theorem OpOK.sub {o : Oper} {σ σ' : Slots} {v : Value} (h : OpOK P o (ev σ) m v m') (hs : Sub σ σ') : OpOK P o (ev σ') m v m' :=
  ⟨fun F w0 μ a w K Q hd hm ho hk => h.ok F w0 μ a w K Q hd hm (fun x u hx hu => ho x u hx (hs.ev hu)) hk⟩
theorem Run.weaken {σ σ' : Slots} (h : Run P ops K l σ m) (hs : Sub σ σ') : Run P ops K l σ' m := by
  cases h with
  | nil h1 h2 => exact .nil (h1.trans hs) h2
  | yes h1 h2 h3 h4 h5 => exact .yes (h1.trans hs) h2 h3 h4 h5
  | no h1 h2 h3 => exact .no (h1.trans hs) h2 h3
theorem run_step {op : Op} {v : Value} (h : OpOK P ⟨d, op, t, pp, af, none⟩ (ev σ) m v m') (hl : m.length ≤ m'.length) (k : Run P ops K l (put σ d v) m') : Run P ops K (⟨d, op, t, pp, af, none⟩ :: l) σ m :=
  .yes (Sub.refl σ) rfl hl h k
theorem run_pure {op : Op} {v : Value} (h : OpOK P ⟨d, op, t, pp, af, none⟩ (ev σ) m v m) (k : Run P ops K l (put σ d v) m) : Run P ops K (⟨d, op, t, pp, af, none⟩ :: l) σ m :=
  .yes (Sub.refl σ) rfl (Nat.le_refl _) h k
theorem look_same {dj : Tmp} {c : Bool} (h2 : look σ dj = some (.bool c)) : Sub ((dj, .bool c) :: σ) σ := fun t v h => by
  simp only [look] at h
  cases hb : Nat.beq dj t with
  | false => rw [hb] at h; exact h
  | true => rw [hb] at h; rw [← Nat.eq_of_beq_eq_true hb, h2]; exact h
theorem look_head {dj : Tmp} {v : Value} : look ((dj, v) :: σ) dj = some v := by simp only [look, show Nat.beq dj dj = true from Nat.beq_refl dj]; rfl
/-- An operation under a test: it is wanted, or not. -/
theorem run_guard {op : Op} {j : Nat} {b c : Bool} {dj : Tmp} (h1 : (ops[j]?).bind (·.dst) = some dj) (h2 : look σ dj = some (.bool c))
    (ht : c = b → Run P ops K (⟨d, op, t, pp, af, none⟩ :: l) ((dj, .bool b) :: σ) m) (hf : c = !b → Run P ops K l (put ((dj, .bool (!b)) :: σ) d undef) m) : Run P ops K (⟨d, op, t, pp, af, some (j, b)⟩ :: l) σ m := by
  by_cases hcb : c = b
  · have h := ht hcb
    subst hcb
    cases h with
    | yes hs hw hl hop hr =>
      rename_i σ1 v m'
      have hsub : Sub σ1 ((dj, .bool c) :: σ1) := fun t v h => by
        have := hs t v h
        simp only [look] at this ⊢
        cases hb : Nat.beq dj t with
        | false => exact h
        | true => rw [hb] at this; exact this
      exact .yes ((hs.cons dj _).trans ((look_same look_head).trans (look_same h2))) ⟨dj, .bool c, h1, look_head, .inl ⟨c, rfl, by simp⟩⟩ hl ⟨(hop.sub hsub).ok⟩ (hr.weaken (hsub.put _ _))
    | no hs hw => cases hw
  · have hcb : c = !b := by cases c <;> cases b <;> simp_all
    refine .no (look_same h2) ⟨dj, .bool c, h1, look_head, .inl ⟨c, rfl, by subst hcb; cases b <;> rfl⟩⟩ ?_
    rw [hcb]
    exact hf hcb
theorem run_undef {op : Op} {j : Nat} {b : Bool} {dj : Tmp} (h1 : (ops[j]?).bind (·.dst) = some dj) (h2 : look σ dj = some undef)
    (k : Run P ops K l (put σ d undef) m) : Run P ops K (⟨d, op, t, pp, af, some (j, b)⟩ :: l) σ m :=
  .no (Sub.refl σ) ⟨dj, undef, h1, h2, .inr ⟨rfl, rfl⟩⟩ k
theorem run_want {op : Op} {j : Nat} {b : Bool} {dj : Tmp} (h1 : (ops[j]?).bind (·.dst) = some dj) (h2 : look σ dj = some (.bool b))
    (h : Run P ops K (⟨d, op, t, pp, af, none⟩ :: l) σ m) : Run P ops K (⟨d, op, t, pp, af, some (j, b)⟩ :: l) σ m :=
  run_guard h1 h2 (fun _ => h.weaken ((Sub.refl σ).trans fun t v hv => by
    simp only [look]
    cases hb : Nat.beq dj t with
    | false => exact hv
    | true => rw [← Nat.eq_of_beq_eq_true hb] at hv; rw [h2] at hv; exact hv)) fun e => absurd e (by cases b <;> simp)
theorem run_unwant {op : Op} {j : Nat} {b : Bool} {dj : Tmp} (h1 : (ops[j]?).bind (·.dst) = some dj) (h2 : look σ dj = some (.bool (!b)))
    (h : Run P ops K l (put σ d undef) m) : Run P ops K (⟨d, op, t, pp, af, some (j, b)⟩ :: l) σ m :=
  run_guard h1 h2 (fun e => absurd e (by cases b <;> simp)) fun _ => h.weaken (Sub.put (fun t v hv => by
    simp only [look]
    cases hb : Nat.beq dj t with
    | false => exact hv
    | true => rw [← Nat.eq_of_beq_eq_true hb] at hv; rw [h2] at hv; exact hv) _ _)
theorem run_guard1 {op : Op} {j : Nat} {dj : Tmp} {p : Prop} [Decidable p] (h1 : (ops[j]?).bind (·.dst) = some dj) (h2 : look σ dj = some (.bool (decide p)))
    (ht : p → Run P ops K (⟨d, op, t, pp, af, none⟩ :: l) ((dj, .bool true) :: σ) m) (hf : ¬ p → Run P ops K l (put ((dj, .bool false) :: σ) d undef) m) : Run P ops K (⟨d, op, t, pp, af, some (j, true)⟩ :: l) σ m :=
  run_guard h1 h2 (fun e => ht (of_decide_eq_true e)) fun e => hf (of_decide_eq_false e)
theorem run_guard0 {op : Op} {j : Nat} {dj : Tmp} {p : Prop} [Decidable p] (h1 : (ops[j]?).bind (·.dst) = some dj) (h2 : look σ dj = some (.bool (decide p)))
    (ht : ¬ p → Run P ops K (⟨d, op, t, pp, af, none⟩ :: l) ((dj, .bool false) :: σ) m) (hf : p → Run P ops K l (put ((dj, .bool true) :: σ) d undef) m) : Run P ops K (⟨d, op, t, pp, af, some (j, false)⟩ :: l) σ m :=
  run_guard h1 h2 (fun e => ht (of_decide_eq_false e)) fun e => hf (of_decide_eq_true e)
theorem aw_cond1 {nt n0 : Nat} {Q : Exit → Slots → Mem → Prop} {c : Operand} {x y : Code} {p : Prop} [Decidable p] (hc : ev σ c = some (.bool (decide p))) (h1 : p → AW P nt n0 x Q σ m) (h0 : ¬ p → AW P nt n0 y Q σ m) : AW P nt n0 (.cond c x y) Q σ m :=
  aw_cond hc (fun e => h1 (of_decide_eq_true e)) fun e => h0 (of_decide_eq_false e)
theorem aw_cond_t {nt n0 : Nat} {Q : Exit → Slots → Mem → Prop} {c : Operand} {x y : Code} (hc : ev σ c = some (.bool true)) (h1 : AW P nt n0 x Q σ m) : AW P nt n0 (.cond c x y) Q σ m :=
  aw_cond hc (fun _ => h1) fun e => by cases e
theorem aw_cond_f {nt n0 : Nat} {Q : Exit → Slots → Mem → Prop} {c : Operand} {x y : Code} (hc : ev σ c = some (.bool false)) (h1 : AW P nt n0 y Q σ m) : AW P nt n0 (.cond c x y) Q σ m :=
  aw_cond hc (fun e => by cases e) fun _ => h1
theorem aw_cond_tp {nt n0 : Nat} {Q : Exit → Slots → Mem → Prop} {c : Operand} {x y : Code} {p : Prop} [Decidable p] (hc : ev σ c = some (.bool (decide p))) (hp : p) (h1 : AW P nt n0 x Q σ m) : AW P nt n0 (.cond c x y) Q σ m :=
  aw_cond1 hc (fun _ => h1) fun h => absurd hp h
theorem aw_cond_fp {nt n0 : Nat} {Q : Exit → Slots → Mem → Prop} {c : Operand} {x y : Code} {p : Prop} [Decidable p] (hc : ev σ c = some (.bool (decide p))) (hp : ¬ p) (h1 : AW P nt n0 y Q σ m) : AW P nt n0 (.cond c x y) Q σ m :=
  aw_cond1 hc (fun h => absurd h hp) fun _ => h1
theorem run_guard1t {op : Op} {j : Nat} {dj : Tmp} {p : Prop} [Decidable p] (h1 : (ops[j]?).bind (·.dst) = some dj) (h2 : look σ dj = some (.bool (decide p))) (hp : p)
    (ht : Run P ops K (⟨d, op, t, pp, af, none⟩ :: l) ((dj, .bool true) :: σ) m) : Run P ops K (⟨d, op, t, pp, af, some (j, true)⟩ :: l) σ m :=
  run_guard1 h1 h2 (fun _ => ht) fun h => absurd hp h
theorem run_guard1f {op : Op} {j : Nat} {dj : Tmp} {p : Prop} [Decidable p] (h1 : (ops[j]?).bind (·.dst) = some dj) (h2 : look σ dj = some (.bool (decide p))) (hp : ¬ p)
    (hf : Run P ops K l (put ((dj, .bool false) :: σ) d undef) m) : Run P ops K (⟨d, op, t, pp, af, some (j, true)⟩ :: l) σ m :=
  run_guard1 h1 h2 (fun h => absurd h hp) fun _ => hf
theorem run_guard0t {op : Op} {j : Nat} {dj : Tmp} {p : Prop} [Decidable p] (h1 : (ops[j]?).bind (·.dst) = some dj) (h2 : look σ dj = some (.bool (decide p))) (hp : ¬ p)
    (ht : Run P ops K (⟨d, op, t, pp, af, none⟩ :: l) ((dj, .bool false) :: σ) m) : Run P ops K (⟨d, op, t, pp, af, some (j, false)⟩ :: l) σ m :=
  run_guard0 h1 h2 (fun _ => ht) fun h => absurd h hp
theorem run_guard0f {op : Op} {j : Nat} {dj : Tmp} {p : Prop} [Decidable p] (h1 : (ops[j]?).bind (·.dst) = some dj) (h2 : look σ dj = some (.bool (decide p))) (hp : p)
    (hf : Run P ops K l (put ((dj, .bool true) :: σ) d undef) m) : Run P ops K (⟨d, op, t, pp, af, some (j, false)⟩ :: l) σ m :=
  run_guard0 h1 h2 (fun h => absurd hp h) fun _ => hf
end
/-! ### calls -/
class FnI (P : Program) (f : FuncId) : Prop where
  ex : ∃ fn, P.funcs[f]? = some fn ∧ (fn.name == "runtime.NumGoroutine") = false ∧ fn.body.isNone = false
inductive ArgsR (ρ : Operand → Option Value) : List Operand → List Value → Prop
  | nil : ArgsR ρ [] []
  | cons {x v xs vs} : ρ x = some v → ArgsR ρ xs vs → ArgsR ρ (x :: xs) (v :: vs)
theorem ArgsR.len {ρ xs vs} (h : ArgsR ρ xs vs) : xs.length = vs.length := by induction h <;> simp [*]
theorem ArgsR.vr {ρ xs vs} (h : ArgsR ρ xs vs) {μ : Mu} {a : Act} (ho : ∀ x u, x ∈ xs → ρ x = some u → VR μ u (a.eval x)) : ∀ (i : Nat) v y, vs[i]? = some v → (xs.map a.eval)[i]? = some y → VR μ v y := by
  induction h with
  | nil => intro i v y h; simp at h
  | cons hx _ ih =>
    intro i v y h1 h2
    cases i with
    | zero =>
      simp at h1 h2
      subst h1 h2
      exact ho _ _ (List.mem_cons_self ..) hx
    | succ i => exact ih (fun x u hx => ho x u (List.mem_cons_of_mem _ hx)) i v y (by simpa using h1) (by simpa using h2)
theorem plain_ren {g : Nat → Nat} : ∀ (d : Nat) (v : Value), plain d v = true → ren g v = v
  | 0, _, h => by simp [plain] at h
  | d + 1, v, h => by
    have hl : ∀ (x : Array Value), x.toList.all (plain d) = true → renA g x = x := fun x hx => by
      rw [renA_eq]
      apply Array.ext (by simp)
      intro i h1 h2
      rw [Array.getElem_map]
      exact plain_ren d _ (List.all_eq_true.1 hx _ (by simp))
    unfold ren
    split
    · simp [plain] at h
    · simp [plain] at h
    · simp only [plain, Bool.and_eq_true] at h
      rw [hl _ h.1, hl _ h.2]
    · rw [plain_ren d _ (by simpa [plain] using h)]
    · rw [hl _ (by simpa only [plain] using h)]
    · rw [hl _ (by simpa only [plain] using h)]
    · rfl
section
variable {P : Program} {ρ : Operand → Option Value} {m : Mem} {d : Option Tmp} {t : TypeId} {pp : String} {af : Array Edge} {g : Option (Nat × Bool)}
theorem run_callFunc {f : FuncId} [FnI P f] (ys : Array Value) (w : World) : (callFunc f ys).run P w = .ok (.enter f ys) w := by
  obtain ⟨fn, h1, h2, h3⟩ := FnI.ex (P := P) (f := f)
  simp only [callFunc, Sem.run_bind, run_program, Result.andThen_ok, h1, h2, h3]
  rfl
theorem upon_of_calls {o : Oper} {a : Act} {f : FuncId} {ys : Array Value} {w : World} {K : Act → World → Prop} {Q : Exit → Act → World → Prop} (hr : (execOp a.eval o).run P w = .ok (.enter f ys) w)
    (h : Calls P f ys w fun e w' => ∃ y, e = .returned y ∧ K (a.put o.dst y) w') : o.wp P a w K Q := by
  unfold Oper.wp
  rw [hr]
  exact h.mono fun e w' ⟨y, he, hk⟩ => by subst he; exact hk
/-- The arguments that a call hands on: what the function value bears, what is handed over. -/
theorem exec_call {fx : Operand} {xs : Array Operand} {at_ : Array TypeId} {f : FuncId} [FnI P f] {a1 a2 : Array Value} {vs args : List Value} {μ : Mu} {A : Act} {w : World} (hf : ρ fx = some (.func (.func f) a1 a2)) (hxs : ArgsR ρ xs.toList vs)
    (hargs : a1.toList ++ vs ++ a2.toList = args) (ho : ∀ x u, x ∈ (Op.call ⟨.value fx, xs, at_⟩).operands → ρ x = some u → VR μ u (A.eval x)) :
    ∃ ys : Array Value, (execOp A.eval ⟨d, .call ⟨.value fx, xs, at_⟩, t, pp, af, g⟩).run P w = .ok (.enter f ys) w ∧ ys.size = args.length ∧ ∀ (i : Nat) x y, args[i]? = some x → ys[i]? = some y → VR μ x y := by
  have hF := ho fx _ (by simp [Op.operands, Call.operands]) hf
  generalize hX : A.eval fx = X at hF
  have hxv := hxs.vr (μ := μ) (a := A) fun x u hx hu => ho x u (by simp only [Op.operands, Call.operands, Array.mem_append]; exact .inr (by simpa using hx)) hu
  have hlen := hxs.len
  cases hF with
  | func s1 r1 s2 r2 =>
    rename_i b1 b2
    refine ⟨b1 ++ xs.map A.eval ++ b2, ?_, ?_, ?_⟩
    · simp only [execOp, resolve, hX, Deferred.ofValue, Sem.run_bind, Sem.run_pure, Result.andThen_ok, invoke, run_callFunc]
    · subst hargs
      simp only [Array.size_append, Array.size_map, List.length_append, Array.length_toList, ← s1, ← s2]
      rw [show xs.size = vs.length by simpa using hlen]
    · subst hargs
      intro i x y hx hy
      have hys : (b1 ++ xs.map A.eval ++ b2).toList = b1.toList ++ xs.toList.map A.eval ++ b2.toList := by simp
      rw [← Array.getElem?_toList, hys] at hy
      have l1 : a1.toList.length = b1.toList.length := by simpa using s1
      rcases Nat.lt_or_ge i b1.toList.length with h1 | h1
      · rw [List.append_assoc, List.getElem?_append_left h1, Array.getElem?_toList] at hy
        rw [List.append_assoc, List.getElem?_append_left (by omega), Array.getElem?_toList] at hx
        exact r1 i x y hx hy
      · rw [List.append_assoc, List.getElem?_append_right h1] at hy
        rw [List.append_assoc, List.getElem?_append_right (by omega), l1] at hx
        have l2 : vs.length = (xs.toList.map A.eval).length := by simpa using hlen.symm
        rcases Nat.lt_or_ge (i - b1.toList.length) vs.length with h2 | h2
        · rw [List.getElem?_append_left (by omega)] at hy
          rw [List.getElem?_append_left h2] at hx
          exact hxv _ x y hx hy
        · rw [List.getElem?_append_right (by omega), Array.getElem?_toList, ← l2] at hy
          rw [List.getElem?_append_right h2, Array.getElem?_toList] at hx
          exact r2 _ x y hx hy
/-- A function that neither takes nor hands back an address. -/
theorem ok_call {fx : Operand} {xs : Array Operand} {at_ : Array TypeId} {f : FuncId} [FnI P f] {a1 a2 : Array Value} {vs args : List Value} {r : Value} (hf : ρ fx = some (.func (.func f) a1 a2)) (hxs : ArgsR ρ xs.toList vs)
    (hargs : a1.toList ++ vs ++ a2.toList = args) (hp : args.all (plain 6) = true) (hr : plain 6 r = true) (hc : ACalls P f args [] r []) : OpOK P ⟨d, .call ⟨.value fx, xs, at_⟩, t, pp, af, g⟩ ρ m r m := by
  constructor
  intro F w0 μ A w K Q hd hm ho hk
  obtain ⟨ys, h1, h2, h3⟩ := exec_call (P := P) (d := d) (t := t) (pp := pp) (af := af) (g := g) (w := w) hf hxs hargs ho
  have hm0 : RepM (fun k => w.heap.size ≤ k) w (fun _ => none) [] w := ⟨rfl, rfl, rfl, Nat.le_refl _, fun _ _ => rfl, fun k hk => hk, fun id B hB => by simp [live] at hB, fun id id' B B' L L' h1 => by simp [live] at h1⟩
  refine upon_of_calls h1 ((hc.calls _ w _ w ys (fun _ _ => rfl) hm0 h2 fun i x y hx hy => ?_).mono ?_)
  · have hpx := List.all_eq_true.1 hp x (List.mem_of_getElem? hx)
    have := plain_eq 6 x y hpx (h3 i x y hx hy)
    rw [this]
    exact plain_refl _ 6 x hpx
  · rintro e w' ⟨μ', y, rfl, _, hd', hm', hy⟩
    have e1 := plain_eq 6 r y hr hy
    exact ⟨y, rfl, hk μ y w' (Ext.refl _ _) hd (hm.keep hm'.os hm'.tape hm'.output hm'.size fun k hk => hm'.frame k (by omega)) (e1 ▸ plain_refl μ 6 r hr)⟩
end
/-! ### functions -/
def rvSem (tmps : Array Value) : ResultVar → Sem Value
  | .tmp t => pure (tmps.getD t undef)
  | .cell p ty => do loadVar ty (← asAddr (tmps.getD p undef))
theorem run_resultVars {P : Program} {F w0 μ m w} {σ : Slots} {a : Act} (hm : RepM F w0 μ m w) (hs : SlotsOK μ σ a) : ∀ (rs : List ResultVar) (vs : List Value), ResOK P rs σ m vs →
    ∃ ys : List Value, (rs.mapM (rvSem a.tmps)).run P w = .ok ys w ∧ ys.length = vs.length ∧ ∀ (i : Nat) x y, vs[i]? = some x → ys[i]? = some y → VR μ x y
  | [], vs, h => by
    cases h
    exact ⟨[], rfl, rfl, fun i x y h => by simp at h⟩
  | .tmp t :: rs, vs, h => by
    obtain ⟨v, vs', h1, rfl, h3⟩ := h
    obtain ⟨ys, k1, k2, k3⟩ := run_resultVars hm hs rs vs' h3
    refine ⟨a.tmps.getD t undef :: ys, by simp only [List.mapM_cons, rvSem, Sem.run_bind, Sem.run_pure, Result.andThen_ok, k1], by simp [k2], fun i x y hx hy => ?_⟩
    cases i with
    | zero => simp only [List.getElem?_cons_zero, Option.some.injEq] at hx hy; subst hx; rw [← hy]; exact (hs t _ h1).2
    | succ i => exact k3 i x y (by simpa using hx) (by simpa using hy)
  | .cell t ty :: rs, vs, h => by
    obtain ⟨id, o, B, v, vs', h1, hB, hv, rfl, h3⟩ := h
    obtain ⟨ys, k1, k2, k3⟩ := run_resultVars hm hs rs vs' h3
    obtain ⟨L, hL, hp⟩ := ((hs t _ h1).2).ptr'
    have : ∃ y, (loadVar ty ⟨L.b, L.o + o, none⟩).run P w = .ok y w ∧ VR μ v y := by
      rcases hv with ⟨D, e1, e2, e3⟩ | ⟨D, n, e1, e2, e3, e4, e5⟩
      · obtain ⟨y, j1, j2⟩ := hm.cells hB hL o v e3
        have hD : aggD D = false := by cases D <;> simp_all [aggD]
        exact ⟨y, by simp [loadVar, run_isAgg e1, hD, j1], j2⟩
      · have hD : aggD D = true := by cases D <;> simp_all [aggD]
        obtain ⟨ti, i1, i2⟩ : ∃ ti, P.info? ty = some ti ∧ ti.size = n := by
          cases hi : P.info? ty with
          | none => rw [hi] at e3; simp at e3
          | some ti => rw [hi] at e3; exact ⟨ti, rfl, by simpa using e3⟩
        obtain ⟨ys, j1, j2, j3⟩ := hm.loadN (P := P) hB hL (TakeR.of e4)
        subst e5
        refine ⟨.agg ys.toArray, by simp [loadVar, run_isAgg e1, hD, run_size i1, i2, j1], .agg (by simp [j2]; omega) fun i u v hu hv => j3 i u v (by simpa using hu) (by simpa using hv)⟩
    obtain ⟨y, j1, j2⟩ := this
    have ha : (asAddr (a.tmps.getD t undef)).run P w = .ok ⟨L.b, L.o + o, none⟩ w := by rw [hp]; rfl
    refine ⟨y :: ys, by simp only [List.mapM_cons, rvSem, Sem.run_bind, ha, Result.andThen_ok, j1, k1, Sem.run_pure], by simp [k2], fun i x y hx hy => ?_⟩
    cases i with
    | zero => simp at hx hy; subst hx hy; exact j2
    | succ i => exact k3 i x y (by simpa using hx) (by simpa using hy)
theorem run_results {P : Program} {F w0 μ m w} {σ : Slots} {a : Act} {fn : Func} {vs : List Value} (hm : RepM F w0 μ m w) (hs : SlotsOK μ σ a) (h : ResOK P fn.results.toList σ m vs) :
    ∃ y, (results fn a.tmps).run P w = .ok y w ∧ VR μ (retOf vs) y := by
  obtain ⟨ys, h1, h2, h3⟩ := run_resultVars (P := P) hm hs _ _ h
  have e : (results fn a.tmps).run P w = .ok (if h : ys.toArray.size = 1 then ys.toArray[0] else .tuple ys.toArray) w := by
    have hfun : results fn a.tmps = (do let vs ← fn.results.mapM (rvSem a.tmps); pure (if h : vs.size = 1 then vs[0] else .tuple vs)) := by
      unfold results
      congr 1
    rw [hfun]
    simp only [Array.mapM_eq_mapM_toList, Sem.run_bind, Sem.run_map, h1, Result.andThen_ok, Sem.run_pure]
  refine ⟨_, e, ?_⟩
  match vs, ys, h2, h3 with
  | [], [], _, _ => exact .tuple rfl fun i u v h => by simp at h
  | [v], [y], _, h3 => exact h3 0 v y rfl rfl
  | u :: v :: vs, x :: y :: ys, h2, h3 =>
    simp only [retOf, List.size_toArray, List.length_cons]
    rw [dif_neg (by omega)]
    exact .tuple (by simpa using h2.symm) fun i p q hp hq => h3 i p q (by simpa using hp) (by simpa using hq)
/-- A function's end: its results are read; blocks are numbered anew or let go. -/
def Post (P : Program) (rs : List ResultVar) (n0 : Nat) (r : Value) (m' : Mem) : Exit → Slots → Mem → Prop := fun e σ m =>
  (match e with | .normal => True | .ret => True | _ => False) ∧ ∃ vs g, ResOK P rs σ m vs ∧ Renum n0 g m m' ∧ Wk (retOf vs) (ren g r)
theorem acalls_of_aw {P : Program} {f : FuncId} {fn : Func} {c : Code} {args : List Value} {m : Mem} {r : Value} {m' : Mem} (hf : P.funcs[f]? = some fn) (hb : fn.body = some c) (hn : Nat.ble args.length fn.ntmps = true)
    (h : AW P fn.ntmps m.length c (Post P fn.results.toList m.length r m') (argSlots 0 args) m) : ACalls P f args m r m' := by
  constructor
  intro F w0 μ w ys hd hm hl hv
  refine calls_of_wp hf hb (wp_mono (h.wp F w0 μ _ w ⟨?_, rfl, fun t v ht => ?_, hm, hd⟩) ?_)
  · have := Nat.le_of_ble_eq_true hn
    simp; omega
  · obtain ⟨_, h2⟩ := look_args args 0 t v ht
    rw [Nat.sub_zero] at h2
    have hlt : t < args.length := by
      rcases Nat.lt_or_ge t args.length with h' | h'
      · exact h'
      · rw [List.getElem?_eq_none h'] at h2; cases h2
    have hy : ys[t]? = some ys[t] := Array.getElem?_eq_getElem (by omega)
    refine ⟨by simp; omega, ?_⟩
    have e : (ys ++ Array.replicate (fn.ntmps - ys.size) undef).getD t undef = ys[t] := by
      simp [Array.getD, show t < ys.size + (fn.ntmps - ys.size) by omega, show t < ys.size by omega]
    rw [e]
    exact hv t v _ h2 hy
  · rintro e a' w' ⟨μ', σ', m'', h1, h2, hx, vs, g, hres, hg, hret⟩
    obtain ⟨y, k1, k2⟩ := run_results (P := P) (fn := fn) h2.mem h2.slots hres
    have k2 := hret.vr k2
    have fin : a'.defers = [] ∧ ∃ v, (results fn a'.tmps).run P w' = .ok v w' ∧ ∃ μ2 y, (Ending.returned v) = .returned y ∧ Ext m.length μ μ2 ∧ Dom μ2 m'.length ∧ RepM F w0 μ2 m' w' ∧ VR μ2 r y :=
      ⟨h2.defers, y, k1, _, y, rfl, h1.trans hg.ext, hg.dom h2.dom, h2.mem.renum hg, k2.ren⟩
    cases e with
    | normal => exact fin
    | ret => exact fin
    | _ => exact hx.elim
/-- The same where nothing of memory is handed back. -/
def PostP (P : Program) (rs : List ResultVar) (r : Value) : Exit → Slots → Mem → Prop := fun e σ m =>
  (match e with | .normal => True | .ret => True | _ => False) ∧ ∃ vs, ResOK P rs σ m vs ∧ retOf vs = r
theorem acalls_pure {P : Program} {f : FuncId} {fn : Func} {c : Code} {args : List Value} {r : Value} (hf : P.funcs[f]? = some fn) (hb : fn.body = some c) (hn : Nat.ble args.length fn.ntmps = true) (hr : plain 6 r = true)
    (h : AW P fn.ntmps 0 c (PostP P fn.results.toList r) (argSlots 0 args) []) : ACalls P f args [] r [] :=
  acalls_of_aw hf hb hn (h.mono fun e σ m ⟨h1, vs, h2, h3⟩ => ⟨h1, vs, fun i => m.length + i, h2, ⟨fun i hi => by simp at hi, Nat.zero_le _, fun i _ => Nat.le_add_right _ _, fun i B hB => by simp [live] at hB, fun i j B B' hB => by simp [live] at hB⟩, by rw [h3, plain_ren 6 r hr]; exact .refl _⟩)
end Go.Proofs.Ytmmaolnjjjdecaa.Av
