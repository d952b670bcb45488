/- Transfer: what the laws say of right stores (plain). -/
import Derived.Test.YtekkdoaakilafaaK3
import Derived.Test.YtekkdoaakilafaaY1
import Derived.Test.YtekkdoaakilafaaT2
set_option linter.unusedVariables false
set_option linter.unusedSimpArgs false
namespace Go.Proofs.Ytekkdoaakilafaa
open Go Av
set_option maxRecDepth 20000
structure Gi where
  i : Nat
  s : Sto
  r : Bool
/-- A complete right store has its manifest's image. -/
theorem int_ok {s : Sto} (hc : chS s = true) (hcc : cpB s = true) : chkM s.mv s.ms s.mg s.mq s.L = 0 ∧ dig 0 (idB (encS s.mv s.ms s.mg s.mq s.L)).data.toList = s.id ∧ inE 0 s.mv s.ms s.mg s.L s.data = 0 := by
  have hk : s.kn = true := by
    unfold cpB at hcc
    rw [Bool.and_eq_true] at hcc
    exact hcc.1
  have hsz : (s.data.size : Int) = s.ms := by
    unfold cpB at hcc
    rw [Bool.and_eq_true] at hcc
    exact of_decide_eq_true hcc.2
  obtain ⟨r1, r2, r3, r4, k, r5, r6, r7, r8, r9, r10, r11, r12, r13⟩ : chkM s.mv s.ms s.mg s.mq s.L = 0 ∧ _ := by
    rcases chS_spec hc with h | ⟨_, _, h, _⟩
    · exact absurd (of_decide_eq_true h).2.2.1 (by rw [hk]; decide)
    · exact knB_spec rfl rfl (h hk)
  refine ⟨r1, r3, ?_⟩
  have hkn : k = s.L.length := by
    unfold dnN at r5
    rw [if_pos hsz] at r5
    omega
  obtain ⟨q1, q2, q3, q4, q5⟩ := chk_ok r1
  have hN : mkN s.data s.mg = s.L.length := by
    unfold mkN
    rw [hsz, ← q4]
    rfl
  unfold inE
  rw [if_neg (by decide), if_neg (by omega), hN]
  refine if_pos (mkL_eq rfl fun i hi => ?_)
  have hv := of_decide_eq_true r7 i (by omega)
  unfold vfE at hv
  rw [if_neg (by decide)] at hv
  split at hv
  · exact absurd hv (by decide)
  · split at hv
    · exact absurd hv (by decide)
    · rename_i h
      exact (Decidable.of_not_not h).symm
theorem nx_dat (s : Sto) : (nxS s).ver = s.ver ∧ (nxS s).id = s.id ∧ (nxS s).data = s.data := ⟨rfl, rfl, rfl⟩
theorem ba_nil (d : ByteArray) : d ++ ⟨#[]⟩ = d := by
  apply ByteArray.ext
  simp
theorem if_app {p : Prop} {h : Decidable p} (a J : ByteArray) : ∃ K, (if p then a ++ J else a) = a ++ K := by
  split
  · exact ⟨J, rfl⟩
  · exact ⟨⟨#[]⟩, (ba_nil a).symm⟩
/-- Behind anything but a newer announcement the version is the same, and the data go on. -/
theorem he_on {s : Sto} {u : Upd} (h : ¬ (u.kind = 1 ∧ s.ver < u.ver)) : (heS s u).ver = s.ver ∧ (heS s u).id = s.id ∧ ∃ J, (heS s u).data = s.data ++ J := by
  unfold heS
  rw [if_neg h]
  split
  · unfold maS
    dsimp only
    split
    · exact ⟨rfl, rfl, ⟨#[]⟩, (ba_nil _).symm⟩
    · exact ⟨rfl, rfl, ⟨#[]⟩, (ba_nil _).symm⟩
  · split
    · unfold puS
      dsimp only
      split
      · exact ⟨rfl, rfl, ⟨#[]⟩, (ba_nil _).symm⟩
      · split
        · exact ⟨rfl, rfl, ⟨#[]⟩, (ba_nil _).symm⟩
        · exact ⟨rfl, rfl, if_app _ _⟩
    · exact ⟨rfl, rfl, ⟨#[]⟩, (ba_nil _).symm⟩
theorem ok_slice_strD {P : Program} {ρ : Operand → Option Value} {m : Mem} {d : Option Tmp} {t : TypeId} {pp : String} {af : Array Edge} {g : Option (Nat × Bool)} {xt : TypeId} {x : Operand} {lo hi : Option Operand} {s U : ByteArray} {l h : Nat} [Ty P xt .string] (hx : ρ x = some (.string s)) (hl : BndR ρ lo 0 l) (hh : BndR ρ hi s.size h) (h1 : l ≤ h ∧ h ≤ s.size) (hU : s.extract l h = U) :
    OpOK P ⟨d, .slice xt x lo hi none, t, pp, af, g⟩ ρ m (.string U) m := by
  subst hU
  exact ok_slice_str hx hl hh h1
theorem ext_app (d J : ByteArray) : (d ++ J).extract 0 d.size = d ∧ (d ++ J).size = d.size + J.size := by
  refine ⟨?_, ByteArray.size_append⟩
  apply ByteArray.ext
  rw [ByteArray.data_extract, ByteArray.data_append, Array.extract_append]
  have e3 : d.data.size = d.size := rfl
  rw [← e3, Array.extract_size, Nat.zero_sub, Nat.sub_self]
  simp
end Go.Proofs.Ytekkdoaakilafaa
