/- Walking in numbers of one's own: the library, part I. -/
import Derived.Test.YtdenooeaiicheaaGreatVH
import Derived.Laws.IdiomStrings
set_option linter.unusedVariables false
set_option linter.unusedSimpArgs false
/- Walking in numbers of one's own: a call that reads blocks and makes new ones, in a region that draws its order. -/
namespace Go.Proofs.YtdenooeaiicheaaGreat.Av
theorem backFrom_roN {G : Nat → Nat} {gl : List Nat} {mc mc' : Mem} (h : (mc.all fun b => !rwB b) = true) : ∀ (i : Nat) (m : Mem), backFrom G gl mc mc' i m = m ++ (mc'.drop mc.length).map (image G)
  | _, [] => by simp [backFrom]
  | i, b :: m => by simp only [backFrom, backB_ro gl mc 0 h, backFrom_roN h (i + 1) m, List.cons_append]
section
variable {P : Program} {ρ : Operand → Option Value} {m : Mem} {d : Option Tmp} {t : TypeId} {pp : String} {af : Array Edge} {g : Option (Nat × Bool)}
/-- What is added to an empty slice. -/
theorem ok_append0 {S x : Operand} {sT xT ct e : TypeId} {id o c k sz b : Nat} {z : List Value} {B : Blk} {xs : List Value} {m' : Mem} {k' : Nat} [Ty P sT (.slice e)] [TyI P e sz b z] (hS : ρ S = some (.slice (some ⟨id, o, none⟩) 0 c)) (hB : live m id = some B) (hr : B.rw = true) (hz : Nat.beq B.z sz = true) (hsz : Nat.blt 0 sz = true) (hzl : Nat.beq z.length sz = true)
    (hx : Src P ρ m x xT sz k xs) (hfit : o ≤ B.cells.length) (hsm : k * b ≤ 140737488355328 ∧ k ≤ 9223372036854775807) (hm' : AppR (some ⟨xs, true, sz⟩) (m.set id none) m' k') (hmz : Nat.beq sz mapZ = false := by rfl) :
    OpOK P ⟨d, .call ⟨.builtin .append, #[S, x], #[sT, xT]⟩, ct, pp, af, g⟩ ρ m (.slice (some ⟨k', 0, none⟩) k k) m' := by
  have h := ok_append (P := P) (d := d) (ct := ct) (pp := pp) (af := af) (g := g) (sT := sT) (xT := xT) (n := 0) (olds := []) (cs := xs) hS hB hr hz hsz hzl hx (by simpa using hfit) (by simp) (List.nil_append _) (by simpa using hsm) hm' hmz
  rwa [Nat.zero_add] at h
end
section
variable {P : Program} {ops : Array Oper} {M : List Nat} {kb base i : Nat} {l : List Oper} {σ : Slots} {m m' : Mem} {cr : List Nat} {K : Slots → Mem → Prop} {d : Option Tmp} {t : TypeId} {pp : String} {af : Array Edge}
theorem sdNR {fx : Operand} {xs : Array Operand} {at_ : Array TypeId} {f : FuncId} [FnI P f] {a1 a2 : Array Value} {vs args : List Value} {r r' : Value} {mc mc' N : Mem} (gl : List Nat) (nc : Nat) (hc : ACalls P f args mc r mc') (k : RunD P ops M kb base K (i + 1) l (put σ d r') (m ++ N) (cr ++ List.replicate nc i))
    (hi : Nat.blt i kb = true := by rfl) (hf : ev σ fx = some (.func (.func f) a1 a2) := by rfl) (hxs : ArgsR (ev σ) xs.toList vs := by ((repeat (apply ArgsR.cons; rfl)); exact ArgsR.nil))
    (hargs : WkL (a1.toList ++ vs ++ a2.toList) (renL (gOf gl ((vis base cr (fun j => (M.getD i 0).testBit j) m).length - mc.length)) args) := by (first | exact WkL.refl _ | exact WkL.ofEq (renL_map (fun _ => rfl) _).symm | exact WkL.ofEq (renL_flat _).symm | (focus ((repeat (first | exact WkL.nil | (apply WkL.cons; (first | exact Wk.refl _ | exact Wk.nil | (apply Wk.aggL; (repeat (first | exact WkL.nil | (apply WkL.cons; (first | exact Wk.refl _ | exact Wk.nil)))); first | done | fail))))); first | done | fail))))
    (hsub : SubM (gOf gl ((vis base cr (fun j => (M.getD i 0).testBit j) m).length - mc.length)) (vis base cr (fun j => (M.getD i 0).testBit j) m) gl mc := by ((repeat (first | exact SubM.nil | (apply SubM.rw; rfl; (first | exact WkL.refl _ | exact WkL.ofEq (renL_map (fun _ => rfl) _).symm | exact WkL.ofEq (renL_flat _).symm | (refine WkL.ofEq (subl_id ?_); constructor; first | done | fail) | (focus ((repeat (first | exact WkL.nil | (apply WkL.cons; (first | exact Wk.refl _ | exact Wk.nil | (apply Wk.aggL; (repeat (first | exact WkL.nil | (apply WkL.cons; (first | exact Wk.refl _ | exact Wk.nil)))); first | done | fail))))); first | done | fail)))) | (apply SubM.ro; rfl; (first | exact WkL.refl _ | exact WkL.ofEq (renL_map (fun _ => rfl) _).symm | exact WkL.ofEq (renL_flat _).symm | (refine WkL.ofEq (subl_id ?_); constructor; first | done | fail) | (focus ((repeat (first | exact WkL.nil | (apply WkL.cons; (first | exact Wk.refl _ | exact Wk.nil | (apply Wk.aggL; (repeat (first | exact WkL.nil | (apply WkL.cons; (first | exact Wk.refl _ | exact Wk.nil)))); first | done | fail))))); first | done | fail)))) | apply SubM.hole)); first | done | fail))
    (hgl : Nat.ble mc.length (vis base cr (fun j => (M.getD i 0).testBit j) m).length = true := by rfl) (hin : gl.all (fun j => Nat.blt j (vis base cr (fun j => (M.getD i 0).testBit j) m).length) = true := by rfl) (hle : Nat.ble mc.length mc'.length = true := by rfl)
    (hro : (mc.all fun b => !rwB b) = true := by rfl) (hnc : Nat.beq (mc'.length - mc.length) nc = true := by rfl)
    (hr : NV (ren (gOf gl ((vis base cr (fun j => (M.getD i 0).testBit j) m).length - mc.length)) r) r' := by constructor) (hN : NM ((mc'.drop mc.length).map (image (gOf gl ((vis base cr (fun j => (M.getD i 0).testBit j) m).length - mc.length)))) N := by repeat constructor)
    (hrw : (N.all fun b => match b with | some B => B.rw | none => true) = true := by rfl) : RunD P ops M kb base K i (⟨d, .call ⟨.value fx, xs, at_⟩, t, pp, af, none⟩ :: l) σ m cr := by
  have hnd : ndB gl mc = true := by
    unfold ndB
    rw [List.all_eq_true]
    rintro ⟨b, j⟩ hb
    have hb' : b ∈ mc := (List.mem_zipIdx' hb).2 ▸ List.getElem_mem _
    have := List.all_eq_true.1 hro b hb'
    simp [this]
  have h := ok_callM (P := P) (ρ := ev σ) (m := vis base cr (fun j => (M.getD i 0).testBit j) m) (d := d) (t := t) (pp := pp) (af := af) (g := none) (at_ := at_) gl hc hf hxs hargs hgl hsub hnd (fun j hj => Nat.blt_eq.mp (List.all_eq_true.1 hin j hj)) hle
  have hb : backL (gOf gl ((vis base cr (fun j => (M.getD i 0).testBit j) m).length - mc.length)) gl mc mc' (vis base cr (fun j => (M.getD i 0).testBit j) m) = vis base cr (fun j => (M.getD i 0).testBit j) m ++ N := by rw [← hN.eq]; exact backFrom_roN hro 0 _
  rw [hb, hr.eq] at h
  have hl : (m ++ N).length - m.length = nc := by
    rw [← Nat.eq_of_beq_eq_true hnc, ← hN.eq]; simp
  exact .mem (Sub.refl σ) rfl (Nat.blt_eq.mp hi) rfl h (extR_new _ _ N (vis_len _ _ _ _) hrw) (by rw [hl]; exact k)
end
end Go.Proofs.YtdenooeaiicheaaGreat.Av
/- Walking in numbers of one's own: rows that are stored into; cells of lists, by the element there. -/
namespace Go.Proofs.YtdenooeaiicheaaGreat.Av
section
variable {P : Program} {ρ : Operand → Option Value} {m : Mem} {d : Option Tmp} {t : TypeId} {pp : String} {af : Array Edge} {g : Option (Nat × Bool)}
/-- An element of a row of cells, that is known. -/
theorem ok_load_mapE {t' : TypeId} {α : Type} {f : α → Value} {l : List α} {a : α} {r : Bool} {z : Nat} {x : Operand} {id o : Nat} {D} (j : Nat) (ha : l[j]? = some a) [Ty P t' D] (hx : ρ x = some (.pointer (some ⟨id, o, none⟩))) (hB : live m id = some ⟨l.map f, r, z⟩) (hD : aggD D = false) (hj : o = j) (hz : Nat.beq z mapZ = false := by rfl) :
    OpOK P ⟨d, .load t' x, t, pp, af, g⟩ ρ m (f a) m := ok_load_at hx hB hD (by subst hj; simp [ha]) hz
end
end Go.Proofs.YtdenooeaiicheaaGreat.Av
