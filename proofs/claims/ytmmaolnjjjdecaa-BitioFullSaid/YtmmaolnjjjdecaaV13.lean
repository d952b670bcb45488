/- Walking in numbers of one's own: laws, contracts from elsewhere, states written anew. -/
import Derived.Test.YtmmaolnjjjdecaaV12
set_option linter.unusedVariables false
set_option linter.unusedSimpArgs false
namespace Go.Proofs.Ytmmaolnjjjdecaa.Av
open Go.RowKit (Below)
/-! ### states written out -/
inductive NV : Value → Value → Prop
  | int {k n} : NV (.int k n) (.int k n)
  | bool {b} : NV (.bool b) (.bool b)
  | string {s} : NV (.string s) (.string s)
  | ptr {i o} : NV (.pointer (some ⟨i, o, none⟩)) (.pointer (some ⟨i, o, none⟩))
  | slc {i o n c} : NV (.slice (some ⟨i, o, none⟩) n c) (.slice (some ⟨i, o, none⟩) n c)
  | snil : NV (.slice none 0 0) (.slice none 0 0)
  | refl {v} : NV v v
theorem NV.eq {v v'} (h : NV v v') : v = v' := by cases h <;> rfl
inductive NL : List Value → List Value → Prop
  | nil : NL [] []
  | cons {v v' l l'} : NV v v' → NL l l' → NL (v :: l) (v' :: l')
  | u8 {g} {l : List UInt8} : NL (renL g (l.map u8v)) (l.map u8v)
  | ints {g k} {l : List Int} : NL (renL g (l.map (Value.int k))) (l.map (Value.int k))
  | strs {g} {l : List ByteArray} : NL (renL g (l.map Value.string)) (l.map Value.string)
  | flat {α : Type} {g} {f : α → List Value} [RenF f] {l : List α} : NL (renL g (l.flatMap f)) (l.flatMap f)
  | refl {l} : NL l l
theorem NL.eq {l l'} (h : NL l l') : l = l' := by
  induction h with
  | nil => rfl
  | cons h _ ih => rw [h.eq, ih]
  | u8 => exact renL_map (fun _ => rfl) _
  | ints => exact renL_map (fun _ => rfl) _
  | strs => exact renL_map (fun _ => rfl) _
  | flat => exact renL_flat _
  | refl => rfl
inductive NM : Mem → Mem → Prop
  | nil : NM [] []
  | hole {m m'} : NM m m' → NM (none :: m) (none :: m')
  | blk {cs cs' rw z m m'} : NL cs cs' → NM m m' → NM (some ⟨cs, rw, z⟩ :: m) (some ⟨cs', rw, z⟩ :: m')
theorem NM.eq {m m'} (h : NM m m') : m = m' := by
  induction h with
  | nil => rfl
  | hole _ ih => rw [ih]
  | blk h _ ih => rw [h.eq, ih]
theorem backB_ro {G : Nat → Nat} {mc' : Mem} {i : Nat} {b : Option Blk} : ∀ (gl : List Nat) (mc : Mem) (k : Nat), (mc.all fun b => !rwB b) = true → backB G mc' i b gl mc k = b
  | [], _, _, _ => by simp [backB]
  | _ :: _, [], _, _ => by simp [backB]
  | j :: gl, Bc :: mc, k, h => by
    simp only [List.all_cons, Bool.and_eq_true, Bool.not_eq_true'] at h
    simp only [backB, h.1, Bool.and_false, cond_false]
    exact backB_ro gl mc (k + 1) h.2
theorem backFrom_ro {G : Nat → Nat} {gl : List Nat} {mc : Mem} (h : (mc.all fun b => !rwB b) = true) : ∀ (i : Nat) (m : Mem), backFrom G gl mc (holes mc) i m = m
  | _, [] => by simp [backFrom, holes]
  | i, b :: m => by simp only [backFrom, backB_ro gl mc 0 h, backFrom_ro h (i + 1) m]
/-- A call that only reads the blocks that it is handed. -/
theorem ok_callR {P : Program} {ρ : Operand → Option Value} {m : Mem} {d : Option Tmp} {t : TypeId} {pp : String} {af : Array Edge} {g : Option (Nat × Bool)} {fx : Operand} {xs : Array Operand} {at_ : Array TypeId} {f : FuncId} [FnI P f] {a1 a2 : Array Value} {vs args : List Value} {r : Value} {mc : Mem} (gl : List Nat) (hc : ACalls P f args mc r (holes mc)) (hf : ρ fx = some (.func (.func f) a1 a2)) (hxs : ArgsR ρ xs.toList vs)
    (hargs : WkL (a1.toList ++ vs ++ a2.toList) (renL (gOf gl (m.length - mc.length)) args)) (hgl : Nat.ble mc.length m.length = true) (hsub : SubM (gOf gl (m.length - mc.length)) m gl mc) (hnd : gl.Nodup) (hin : gl.all (fun j => Nat.blt j m.length) = true)
    (hro : (mc.all fun b => !rwB b) = true) (hr : plain 6 r = true) : OpOK P ⟨d, .call ⟨.value fx, xs, at_⟩, t, pp, af, g⟩ ρ m r m := by
  have h := ok_callM (d := d) (t := t) (pp := pp) (af := af) (g := g) (at_ := at_) gl hc hf hxs hargs hgl hsub hnd (fun j hj => Nat.blt_eq.mp (List.all_eq_true.1 hin j hj)) (by simp [holes])
  rwa [plain_ren 6 r hr, show backL (gOf gl (m.length - mc.length)) gl mc (holes mc) m = m from backFrom_ro hro 0 m] at h
section
variable {P : Program} {ops : Array Oper} {l : List Oper} {σ : Slots} {m m' : Mem} {K : Slots → Mem → Prop} {d : Option Tmp} {t : TypeId} {pp : String} {af : Array Edge}
theorem st_callM {fx : Operand} {xs : Array Operand} {at_ : Array TypeId} {f : FuncId} [FnI P f] {a1 a2 : Array Value} {vs args : List Value} {r r' : Value} {mc mc' : Mem} (gl : List Nat) (hc : ACalls P f args mc r mc') (k : Run P ops K l (put σ d r') m')
    (hf : ev σ fx = some (.func (.func f) a1 a2) := by rfl) (hxs : ArgsR (ev σ) xs.toList vs := by ((repeat (apply ArgsR.cons; rfl)); exact ArgsR.nil))
    (hargs : WkL (a1.toList ++ vs ++ a2.toList) (renL (gOf gl (m.length - mc.length)) args) := by (first | exact WkL.refl _ | exact WkL.ofEq (renL_map (fun _ => rfl) _).symm | exact WkL.ofEq (renL_flat _).symm | (focus ((repeat (first | exact WkL.nil | (apply WkL.cons; (first | exact Wk.refl _ | exact Wk.nil | (apply Wk.aggL; (repeat (first | exact WkL.nil | (apply WkL.cons; (first | exact Wk.refl _ | exact Wk.nil)))); done))))); done))))
    (hsub : SubM (gOf gl (m.length - mc.length)) m gl mc := by ((repeat (first | exact SubM.nil | (apply SubM.rw; rfl; (first | exact WkL.refl _ | exact WkL.ofEq (renL_map (fun _ => rfl) _).symm | exact WkL.ofEq (renL_flat _).symm | (focus ((repeat (first | exact WkL.nil | (apply WkL.cons; (first | exact Wk.refl _ | exact Wk.nil | (apply Wk.aggL; (repeat (first | exact WkL.nil | (apply WkL.cons; (first | exact Wk.refl _ | exact Wk.nil)))); done))))); done)))) | (apply SubM.ro; rfl; (first | exact WkL.refl _ | exact WkL.ofEq (renL_map (fun _ => rfl) _).symm | exact WkL.ofEq (renL_flat _).symm | (focus ((repeat (first | exact WkL.nil | (apply WkL.cons; (first | exact Wk.refl _ | exact Wk.nil | (apply Wk.aggL; (repeat (first | exact WkL.nil | (apply WkL.cons; (first | exact Wk.refl _ | exact Wk.nil)))); done))))); done)))) | apply SubM.hole)); done))
    (hgl : Nat.ble mc.length m.length = true := by rfl) (hnd : gl.Nodup := by decide) (hin : gl.all (fun j => Nat.blt j m.length) = true := by rfl) (hle : Nat.ble mc.length mc'.length = true := by rfl)
    (hr : NV (ren (gOf gl (m.length - mc.length)) r) r' := by constructor) (hm : NM (backL (gOf gl (m.length - mc.length)) gl mc mc' m) m' := by repeat constructor)
    (hlm : Nat.ble m.length m'.length = true := by rfl) : Run P ops K (⟨d, .call ⟨.value fx, xs, at_⟩, t, pp, af, none⟩ :: l) σ m := by
  have e1 := hr.eq
  have e2 := hm.eq
  subst e1 e2
  exact run_step (ok_callM gl hc hf hxs hargs hgl hsub hnd (fun j hj => Nat.blt_eq.mp (List.all_eq_true.1 hin j hj)) hle) (Nat.le_of_ble_eq_true hlm) k
theorem st_callR {fx : Operand} {xs : Array Operand} {at_ : Array TypeId} {f : FuncId} [FnI P f] {a1 a2 : Array Value} {vs args : List Value} {r : Value} {mc : Mem} (gl : List Nat) (hc : ACalls P f args mc r (holes mc)) (k : Run P ops K l (put σ d r) m)
    (hf : ev σ fx = some (.func (.func f) a1 a2) := by rfl) (hxs : ArgsR (ev σ) xs.toList vs := by ((repeat (apply ArgsR.cons; rfl)); exact ArgsR.nil))
    (hargs : WkL (a1.toList ++ vs ++ a2.toList) (renL (gOf gl (m.length - mc.length)) args) := by (first | exact WkL.refl _ | exact WkL.ofEq (renL_map (fun _ => rfl) _).symm | exact WkL.ofEq (renL_flat _).symm | (focus ((repeat (first | exact WkL.nil | (apply WkL.cons; (first | exact Wk.refl _ | exact Wk.nil | (apply Wk.aggL; (repeat (first | exact WkL.nil | (apply WkL.cons; (first | exact Wk.refl _ | exact Wk.nil)))); done))))); done)))) (hgl : Nat.ble mc.length m.length = true := by rfl)
    (hsub : SubM (gOf gl (m.length - mc.length)) m gl mc := by ((repeat (first | exact SubM.nil | (apply SubM.rw; rfl; (first | exact WkL.refl _ | exact WkL.ofEq (renL_map (fun _ => rfl) _).symm | exact WkL.ofEq (renL_flat _).symm | (focus ((repeat (first | exact WkL.nil | (apply WkL.cons; (first | exact Wk.refl _ | exact Wk.nil | (apply Wk.aggL; (repeat (first | exact WkL.nil | (apply WkL.cons; (first | exact Wk.refl _ | exact Wk.nil)))); done))))); done)))) | (apply SubM.ro; rfl; (first | exact WkL.refl _ | exact WkL.ofEq (renL_map (fun _ => rfl) _).symm | exact WkL.ofEq (renL_flat _).symm | (focus ((repeat (first | exact WkL.nil | (apply WkL.cons; (first | exact Wk.refl _ | exact Wk.nil | (apply Wk.aggL; (repeat (first | exact WkL.nil | (apply WkL.cons; (first | exact Wk.refl _ | exact Wk.nil)))); done))))); done)))) | apply SubM.hole)); done)) (hnd : gl.Nodup := by decide) (hin : gl.all (fun j => Nat.blt j m.length) = true := by rfl)
    (hro : (mc.all fun b => !rwB b) = true := by rfl) (hr : plain 6 r = true := by rfl) : Run P ops K (⟨d, .call ⟨.value fx, xs, at_⟩, t, pp, af, none⟩ :: l) σ m :=
  run_step (ok_callR gl hc hf hxs hargs hgl hsub hnd hin hro hr) (Nat.le_refl _) k
theorem sd_callR {M : List Nat} {kb base i : Nat} {cr : List Nat} {fx : Operand} {xs : Array Operand} {at_ : Array TypeId} {f : FuncId} [FnI P f] {a1 a2 : Array Value} {vs args : List Value} {r : Value} {mc : Mem} (gl : List Nat) (hc : ACalls P f args mc r (holes mc)) (k : RunD P ops M kb base K (i + 1) l (put σ d r) m cr)
    (hi : Nat.blt i kb = true := by rfl) (hf : ev σ fx = some (.func (.func f) a1 a2) := by rfl) (hxs : ArgsR (ev σ) xs.toList vs := by ((repeat (apply ArgsR.cons; rfl)); exact ArgsR.nil))
    (hargs : WkL (a1.toList ++ vs ++ a2.toList) (renL (gOf gl ((vis base cr (fun j => (M.getD i 0).testBit j) m).length - mc.length)) args) := by (first | exact WkL.refl _ | exact WkL.ofEq (renL_map (fun _ => rfl) _).symm | exact WkL.ofEq (renL_flat _).symm | (focus ((repeat (first | exact WkL.nil | (apply WkL.cons; (first | exact Wk.refl _ | exact Wk.nil | (apply Wk.aggL; (repeat (first | exact WkL.nil | (apply WkL.cons; (first | exact Wk.refl _ | exact Wk.nil)))); done))))); done)))) (hgl : Nat.ble mc.length (vis base cr (fun j => (M.getD i 0).testBit j) m).length = true := by rfl)
    (hsub : SubM (gOf gl ((vis base cr (fun j => (M.getD i 0).testBit j) m).length - mc.length)) (vis base cr (fun j => (M.getD i 0).testBit j) m) gl mc := by ((repeat (first | exact SubM.nil | (apply SubM.rw; rfl; (first | exact WkL.refl _ | exact WkL.ofEq (renL_map (fun _ => rfl) _).symm | exact WkL.ofEq (renL_flat _).symm | (focus ((repeat (first | exact WkL.nil | (apply WkL.cons; (first | exact Wk.refl _ | exact Wk.nil | (apply Wk.aggL; (repeat (first | exact WkL.nil | (apply WkL.cons; (first | exact Wk.refl _ | exact Wk.nil)))); done))))); done)))) | (apply SubM.ro; rfl; (first | exact WkL.refl _ | exact WkL.ofEq (renL_map (fun _ => rfl) _).symm | exact WkL.ofEq (renL_flat _).symm | (focus ((repeat (first | exact WkL.nil | (apply WkL.cons; (first | exact Wk.refl _ | exact Wk.nil | (apply Wk.aggL; (repeat (first | exact WkL.nil | (apply WkL.cons; (first | exact Wk.refl _ | exact Wk.nil)))); done))))); done)))) | apply SubM.hole)); done)) (hnd : gl.Nodup := by decide) (hin : gl.all (fun j => Nat.blt j (vis base cr (fun j => (M.getD i 0).testBit j) m).length) = true := by rfl)
    (hro : (mc.all fun b => !rwB b) = true := by rfl) (hr : plain 6 r = true := by rfl) : RunD P ops M kb base K i (⟨d, .call ⟨.value fx, xs, at_⟩, t, pp, af, none⟩ :: l) σ m cr :=
  .mem (m' := m) (V' := vis base cr (fun j => (M.getD i 0).testBit j) m) (Sub.refl σ) rfl (Nat.blt_eq.mp hi) rfl (ok_callR gl hc hf hxs hargs hgl hsub hnd hin hro hr) (extR_same _ _ (vis_len _ _ _ _)) (by simpa using k)
end
/-- Code up to a state that is named. -/
theorem aw_cut {P : Program} {nt n0 : Nat} {x y : Code} {Q : Exit → Slots → Mem → Prop} {σ : Slots} {m : Mem} (σ1 : Slots) (m1 : Mem) (hx : AW P nt n0 x (ThenA (Fits n0 σ1 m1) Q) σ m) (hy : AW P nt n0 y Q σ1 m1) : AW P nt n0 x (ThenA (AW P nt n0 y Q) Q) σ m :=
  hx.mono fun e σ' m' h => by
    cases e with
    | normal => exact aw_fits h hy
    | _ => exact h
/-! ### laws -/
def PostL (P : Program) (rs : List ResultVar) (r : Value) : Exit → Slots → Mem → Prop := PostP P rs r
theorem acalls_law {P : Program} {f : FuncId} {fn : Func} {c : Code} {args : List Value} {m : Mem} {r : Value} (hf : P.funcs[f]? = some fn) (hb : fn.body = some c) (hn : Nat.ble args.length fn.ntmps = true) (hr : plain 6 r = true)
    (h : AW P fn.ntmps m.length c (PostP P fn.results.toList r) (argSlots 0 args) m) : ACalls P f args m r (holes m) :=
  acalls_of_aw hf hb hn (h.mono fun e σ m1 ⟨h1, vs, h2, h3⟩ => ⟨h1, vs, fun i => if i < m.length then i else m1.length + i, h2,
    ⟨fun i hi => if_pos hi, by simp [holes], fun i hi => by simp [holes] at hi; show m1.length ≤ (if i < m.length then i else m1.length + i); rw [if_neg (by omega)]; omega, fun i B hB => (holes_live _ _ _ hB).elim, fun i j B B' hB => (holes_live _ _ _ hB).elim⟩, by rw [h3, plain_ren 6 r hr]; exact .refl _⟩)
/-- A contract over the model's own worlds. -/
theorem acalls_of {P : Program} {f : FuncId} {args : List Value} {r : Value} (hp : args.all (plain 6) = true) (hr : plain 6 r = true) (h : ∀ w, Calls P f args.toArray w fun e w' => e = .returned r ∧ Below w.heap.size w w') : ACalls P f args [] r [] := by
  constructor
  intro F w0 μ w ys hd hm hl hv
  have e : ys = args.toArray := by
    apply Array.ext (by simpa using hl)
    intro i h1 h2
    have hx : args[i]? = some args[i] := List.getElem?_eq_getElem (by simpa using h2)
    have := plain_eq 6 args[i] ys[i] (List.all_eq_true.1 hp _ (List.getElem_mem _)) (hv i _ _ hx (Array.getElem?_eq_getElem h1))
    rw [this]; simp
  subst e
  exact (h w).mono fun e w' ⟨he, hb⟩ => ⟨μ, r, he, Ext.refl _ _, hd, hm.keep hb.os hb.tape hb.output hb.size fun k hk => hb.block k hk, plain_refl μ 6 r hr⟩
theorem calls_of {P : Program} {f : FuncId} {args : List Value} {m m' : Mem} {r : Value} {W : World} {μ : Mu} {ys : Array Value} (h : ACalls P f args m r m') (hr : plain 6 r = true) (hd : Dom μ m.length) (hm : RepM (fun k => W.heap.size ≤ k) W μ m W) (hl : ys.size = args.length) (hv : ∀ (i : Nat) x y, args[i]? = some x → ys[i]? = some y → VR μ x y) :
    Calls P f ys W fun e w' => e = .returned r ∧ Below W.heap.size W w' :=
  (h.calls _ W μ W ys hd hm hl hv).mono fun e w' ⟨μ', y, he, _, _, hm', hy⟩ => ⟨by rw [he, plain_eq 6 r y hr hy], ⟨hm'.os, hm'.tape, hm'.output, hm'.size, fun k hk => hm'.frame k (by omega)⟩⟩
/-- Blocks that are only read. -/
theorem repM_ro {W : World} {μ : Mu} {m : Mem} (h : ∀ id B, live m id = some B → B.rw = false ∧ ∃ L, μ id = some L ∧ L.rw = false ∧ L.z = B.z ∧ CellsOK μ B.cells L.b L.o W) : RepM (fun k => W.heap.size ≤ k) W μ m W where
  os := rfl
  tape := rfl
  output := rfl
  size := Nat.le_refl _
  frame _ _ := rfl
  up _ h := h
  blk id B hB := by
    obtain ⟨h1, L, h2, h3, h4, h5⟩ := h id B hB
    exact ⟨L, h2, ⟨fun h => (by rw [h1] at h; cases h), h4, h5, fun h => (by rw [h3] at h; cases h)⟩, fun h => (by have h := h.1; rw [h1] at h; cases h)⟩
  excl id id' B B' L L' hB _ _ _ _ hr := by have hr := hr.1; rw [(h id B hB).1] at hr; cases hr
end Go.Proofs.Ytmmaolnjjjdecaa.Av
