/- TopJoins: joiners, a request as a whole; TopJoins: plain. -/
import Derived.Test.YtdbcbclapipgdaaGreatDoorVO
import Derived.Test.YtdbcbclapipgdaaGreatDoorJ
import Derived.Test.YtdbcbclapipgdaaGreatDoorC26
import Derived.Test.YtdbcbclapipgdaaGreatDoorC30
import Derived.Test.YtdbcbclapipgdaaGreatDoorC31
set_option linter.unusedVariables false
set_option linter.unusedSimpArgs false
namespace Go.Proofs.YtdbcbclapipgdaaGreatDoor
open Go Av
set_option maxRecDepth 20000
/-- A request, by bytes: lost, or taken in by the gateway. -/
theorem ac_exch (nm sec : ByteArray) (no tr si sl : Int) (L : List Mb) (n k : Nat) (nd nq v : Int) (hL : L.length = n) (hn : n ≤ 8) (g : mmB L = true) (hq : L[k]? = some ⟨nm, sec, nd, nq⟩) (h : nq ≤ no) (hno : 0 ≤ no ∧ no ≤ 100) (ht : 0 ≤ tr ∧ tr ≤ 3) (hs : 0 ≤ si ∧ si ≤ 1000) (hl : 0 ≤ sl ∧ sl ≤ 1000) :
    ACalls Tryz.prog 53 [.agg #[.string nm, .string sec, .int .i64 1, .int .i64 0, .int .i64 1, .int .i64 (-1), .int .i64 no, .int .i64 tr, .int .i64 si], .slice (some ⟨0, 0, none⟩) n n, .int .i64 sl, .int .u8 v] [some ⟨L.flatMap mbC, false, 4⟩] (.tuple #[.agg #[.string nm, .string sec, .int .i64 2, .int .i64 0, .int .i64 1, .int .i64 (-1), .int .i64 (no + 1), .int .i64 (tr + 1), .int .i64 sl], .slice (some ⟨0, 0, none⟩) n n, .bool true]) [none] ∨
    ∃ d sj nd2 : Int, (1 ≤ d ∧ d ≤ 31) ∧ (nd = -1 ∨ nd = d) ∧ ((sj = 2 ∧ nd2 = -1) ∨ (sj = 3 ∧ nd2 = d)) ∧ mmB (L.set k ⟨nm, sec, d, no + 1⟩) = true ∧ ACalls Tryz.prog 53 [.agg #[.string nm, .string sec, .int .i64 1, .int .i64 0, .int .i64 1, .int .i64 (-1), .int .i64 no, .int .i64 tr, .int .i64 si], .slice (some ⟨0, 0, none⟩) n n, .int .i64 sl, .int .u8 v] [some ⟨L.flatMap mbC, false, 4⟩] (.tuple #[.agg #[.string nm, .string sec, .int .i64 sj, .int .i64 0, .int .i64 1, .int .i64 nd2, .int .i64 (no + 1), .int .i64 (tr + 1), .int .i64 sl], .slice (some ⟨1, 0, none⟩) n n, .bool true]) [none, some ⟨(L.set k ⟨nm, sec, d, no + 1⟩).flatMap mbC, true, 4⟩] := by
  have m1 := mb1_t (and_t (mm_at g hq)).1
  dsimp only at m1
  have s1 := nmB_t m1.1
  have hk := adm_ak g hq (no := no + 1) (by omega)
  have HR := ac_jReq1 nm sec 1 0 1 (-1) no tr si sl (tj_chR m1.1 m1.2.1 no tr si (by omega) ht hs) (by omega) rfl (by omega)
  have HE := ac_jEA1 nm (acS sec nm (no + 1)) (no + 1) hk
  have HD := ac_jDA1 _ nm (acS sec nm (no + 1)) (no + 1) (-1) true true (jo_readA nm (acS sec nm (no + 1)) (no + 1) s1.2 (by omega) (acS_size _ _ _)) (ac_asks nm (no + 1) _ true hk) rfl
  obtain ⟨d, hd, hdd, hG, HA⟩ := adm_go L n hL (by omega) k nm sec nd nq (no + 1) g hq (.inl (by omega)) (by omega)
  have hq2 : (L.set k ⟨nm, sec, d, no + 1⟩)[k]? = some ⟨nm, sec, d, no + 1⟩ := List.getElem?_set_self (List.getElem?_eq_some_iff.1 hq).1
  have hL2 : (L.set k ⟨nm, sec, d, no + 1⟩).length = n := by rw [List.length_set]; exact hL
  obtain ⟨d2, hd2, hdd2, hG3, HB⟩ := adm_go (L.set k ⟨nm, sec, d, no + 1⟩) n hL2 (by omega) k nm sec d (no + 1) (no + 1) hG hq2 (.inr ⟨rfl, by omega⟩) (by omega)
  have hde : d2 = d := by omega
  rw [hde, set_same hq2] at HB
  have HS := ac_same (L.set k ⟨nm, sec, d, no + 1⟩) n hL2 (by omega)
  have han : anB nm (no + 1) d (nsS sec nm (no + 1) d) = true := by
    unfold anB akB
    rw [m1.1, decide_eq_true ⟨by omega, nsS_size _ _ _ _⟩, decide_eq_true hd]
    rfl
  have HT := ac_jEB1 nm (nsS sec nm (no + 1) d) (no + 1) d han
  have HX := ac_jDB1 _ nm (nsS sec nm (no + 1) d) (no + 1) d true true (jo_readB nm (nsS sec nm (no + 1) d) (no + 1) d s1.2 (by omega) (by omega) (nsS_size _ _ _ _)) (ac_ansF nm (no + 1) d _ true han) rfl
  have HU := ac_jTake0 nm sec 2 0 1 (-1) (no + 1) (tr + 1) sl nm (no + 1) d (nsS sec nm (no + 1) d) 0 (by
    rw [tj_chA m1.1 m1.2.1 (no + 1) (tr + 1) sl (by omega) (by omega) hl, han]
    simp)
  rw [if_pos rfl] at HU
  obtain ⟨a1, h1⟩ : ∃ a, bitv .and .u8 v 1 = a := ⟨_, rfl⟩
  obtain ⟨a4, h4⟩ : ∃ a, bitv .and .u8 v 4 = a := ⟨_, rfl⟩
  obtain ⟨a2, h2⟩ : ∃ a, bitv .and .u8 v 2 = a := ⟨_, rfl⟩
  by_cases hf : a1 = 0
  · right
    by_cases hh : a2 = 0
    · refine ⟨d, 3, d, hd, hdd, .inr ⟨rfl, rfl⟩, hG, ?_⟩
      by_cases hg : a4 = 0
      · exact tx_t0 nm sec no tr si sl L n v (L.set k ⟨nm, sec, d, no + 1⟩) d _ _ _ _ a1 a4 a2 h1 h4 h2 HR HE HD hf hg hh HA HT HX HU
      · exact tx_t4 nm sec no tr si sl L n v (L.set k ⟨nm, sec, d, no + 1⟩) d _ _ _ _ a1 a4 a2 h1 h4 h2 HR HE HD hf hg hh HA HB HS HT HX HU
    · refine ⟨d, 2, -1, hd, hdd, .inl ⟨rfl, rfl⟩, hG, ?_⟩
      by_cases hg : a4 = 0
      · exact tx_a0 nm sec no tr si sl L n v (L.set k ⟨nm, sec, d, no + 1⟩) d _ (nsS sec nm (no + 1) d) _ ⟨#[]⟩ a1 a4 a2 h1 h4 h2 HR HE HD hf hg hh HA
      · exact tx_a4 nm sec no tr si sl L n v (L.set k ⟨nm, sec, d, no + 1⟩) d _ (nsS sec nm (no + 1) d) _ ⟨#[]⟩ a1 a4 a2 h1 h4 h2 HR HE HD hf hg hh HA HB HS
  · left
    exact tx_l nm sec no tr si sl L n v L d _ ⟨#[]⟩ _ ⟨#[]⟩ a1 a4 a2 h1 h4 h2 HR HE HD hf
def x2F (x : Int × Int) : List Value := [.int .u8 x.1, .int .u8 x.2]
instance : RenF x2F := ⟨fun _ _ => rfl⟩
def tjR (m : Mb) (j : Jnr) (t : Int) : Prop := j.nm = m.nm ∧ j.sec = m.sec ∧ (0 ≤ m.no ∧ m.no ≤ j.no ∧ j.no ≤ t) ∧ ((j.sj = 0 ∧ j.pa = -1 ∧ j.ep = 0 ∧ j.nd = -1 ∧ j.tr = 0 ∧ j.si = 0) ∨ (j.sj = 2 ∧ j.pa = 0 ∧ j.ep = 1 ∧ j.nd = -1 ∧ (1 ≤ j.tr ∧ j.tr ≤ 4) ∧ (0 ≤ j.si ∧ j.si + 10 ≤ 10 * t) ∧ 1 ≤ j.no) ∨ (j.sj = 3 ∧ j.pa = 0 ∧ j.ep = 1 ∧ j.nd = m.nd ∧ (1 ≤ m.nd ∧ m.nd ≤ 31)))
def tjI (L : List Mb) (Q : List Jnr) (p : Nat) (t : Int) : Prop := mmB L = true ∧ L.length = p ∧ Q.length = p ∧ ∀ (k : Nat) (m : Mb) (j : Jnr), L[k]? = some m → Q[k]? = some j → tjR m j t
structure Tj where
  i : Nat
  L : List Mb
  Q : List Jnr
theorem tjR_mono {m : Mb} {j : Jnr} {t : Int} (h : tjR m j t) : tjR m j (t + 1) := by
  obtain ⟨h1, h2, h3, h4⟩ := h
  refine ⟨h1, h2, by omega, ?_⟩
  rcases h4 with h4 | h4 | h4
  · exact .inl h4
  · exact .inr (.inl ⟨h4.1, h4.2.1, h4.2.2.1, h4.2.2.2.1, h4.2.2.2.2.1, by omega, h4.2.2.2.2.2.2⟩)
  · exact .inr (.inr h4)
theorem tjI_mono {L : List Mb} {Q : List Jnr} {p : Nat} {t : Int} (h : tjI L Q p t) : tjI L Q p (t + 1) := ⟨h.1, h.2.1, h.2.2.1, fun k m j h1 h2 => tjR_mono (h.2.2.2 k m j h1 h2)⟩
theorem tjI_set {L L' : List Mb} {Q : List Jnr} {p : Nat} {t : Int} (h : tjI L Q p t) {k : Nat} {m : Mb} {j : Jnr} (hL' : ∀ q, q ≠ k → L'[q]? = L[q]?) (hk : L'[k]? = some m) (hg : mmB L' = true) (hl : L'.length = p) (hr : tjR m j (t + 1)) : tjI L' (Q.set k j) p (t + 1) := by
  refine ⟨hg, hl, by rw [List.length_set]; exact h.2.2.1, fun q m' j' h1 h2 => ?_⟩
  by_cases hq : k = q
  · subst hq
    have hi : k < Q.length := by
      have := (List.getElem?_eq_some_iff.1 h2).1
      rwa [List.length_set] at this
    rw [List.getElem?_set_self hi] at h2
    rw [hk] at h1
    cases h1
    cases h2
    exact hr
  · rw [List.getElem?_set_ne hq] at h2
    rw [hL' q (Ne.symm hq)] at h1
    exact tjR_mono (h.2.2.2 q m' j' h1 h2)
theorem tjI_app {L : List Mb} {Q : List Jnr} {p : Nat} (h : tjI L Q p 0) {nm sec : ByteArray} (hn : nmB nm = true) (hs : scB sec = true) (hl : ∀ (k : Nat) (q : Mb), L[k]? = some q → ltS q.nm nm = true) : tjI (L ++ [⟨nm, sec, -1, 0⟩]) (Q ++ [⟨nm, sec, 0, -1, 0, -1, 0, 0, 0⟩]) (p + 1) 0 := by
  obtain ⟨h1, h2, h3, h4⟩ := h
  refine ⟨mm_app h1 hn hs hl, by rw [List.length_append, h2]; rfl, by rw [List.length_append, h3]; rfl, fun k m j hm hj => ?_⟩
  rcases Nat.lt_or_ge k p with h | h
  · rw [List.getElem?_append_left (by omega)] at hm hj
    exact h4 k m j hm hj
  · have hkp : k = p := by
      have := (List.getElem?_eq_some_iff.1 hm).1
      rw [List.length_append] at this
      simp at this
      omega
    subst hkp
    have e1 : (L ++ [⟨nm, sec, -1, 0⟩])[k]? = some ⟨nm, sec, -1, 0⟩ := by rw [← h2]; exact List.getElem?_concat_length
    have e2 : (Q ++ [⟨nm, sec, 0, -1, 0, -1, 0, 0, 0⟩])[k]? = some ⟨nm, sec, 0, -1, 0, -1, 0, 0, 0⟩ := by rw [← h3]; exact List.getElem?_concat_length
    rw [e1] at hm
    rw [e2] at hj
    cases hm
    cases hj
    exact ⟨rfl, rfl, ⟨Int.le_refl 0, Int.le_refl 0, Int.le_refl 0⟩, .inl ⟨rfl, rfl, rfl, rfl, rfl, rfl⟩⟩
/-- Hear: a frame that is none, and the beacon. -/
theorem tj_hear {nm sec : ByteArray} (hn : nmB nm = true) (hs : scB sec = true) (no : Int) (h : 0 ≤ no ∧ no ≤ 1000) : ACalls Tryz.prog 33 [.agg #[.string nm, .string sec, .int .i64 0, .int .i64 (-1), .int .i64 0, .int .i64 (-1), .int .i64 no, .int .i64 0, .int .i64 0], .slice (some ⟨0, 0, none⟩) 2 2] [some ⟨[.int .i64 0, .int .i64 0, .int .i64 0, .int .i64 0, .int .i64 0, .int .i64 0, .int .i64 0, .int .i64 0, .int .i64 0, .int .i64 0, .int .i64 0, .string ⟨#[]⟩] ++ [.int .i64 3, .int .i64 0, .int .i64 (-1), .int .i64 0, .int .i64 0, .int .i64 0, .int .i64 0, .int .i64 0, .int .i64 0, .int .i64 0, .int .i64 1, .string opD], false, 12⟩] (.tuple #[.agg #[.string nm, .string sec, .int .i64 1, .int .i64 0, .int .i64 1, .int .i64 (-1), .int .i64 no, .int .i64 0, .int .i64 0], .int .i64 0]) [none] := ac_jHear nm sec 0 (-1) 0 (-1) no 0 0 [⟨0, 0, 0, 0, 0, 0, 0, 0, 0, 0, 0, ⟨#[]⟩⟩, ⟨3, 0, -1, 0, 0, 0, 0, 0, 0, 0, 1, opD⟩] 2 rfl (by decide) (fun f hf => by
    simp only [List.mem_cons, List.mem_nil_iff, or_false] at hf
    rcases hf with rfl | rfl
    · decide
    · exact opD_size) 0 (by rw [tj_chS hn hs no h, tj_hr0]; rfl) 0 1 (fun f hf => by
    rw [tj_hr0] at hf
    cases hf
    exact ⟨rfl, rfl⟩)
end Go.Proofs.YtdbcbclapipgdaaGreatDoor
