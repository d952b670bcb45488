/- Offers: read from their bytes. -/
import Derived.Test.YtfabgdignlfihaaW1
import Derived.Test.YtfabgdignlfihaaLB
import Derived.Test.YtfabgdignlfihaaH5
set_option linter.unusedVariables false
set_option linter.unusedSimpArgs false
namespace Go.Proofs.Ytfabgdignlfihaa
open Go Av
set_option maxRecDepth 20000
theorem chR_of {d : ByteArray} {bs xs ys : List Int} {C : List Int} (hd : dbits d 0 bs.length = bs) (hl : bs.length ≤ 8 * d.size) (h : bs = xs ++ C.flatMap (bitsOf 4) ++ ys) (hC : ∀ c ∈ C, 0 ≤ c ∧ c < 16) : ∀ i, i ≤ C.length → chR d xs.length 0 i = (C.take i, xs.length + 4 * i, 0)
  | 0, _ => by simp [chR]
  | i + 1, hi => by
    obtain ⟨c, hq⟩ : ∃ q, C[i]? = some q := ⟨_, List.getElem?_eq_getElem (by omega)⟩
    have ih := chR_of hd hl h hC i (by omega)
    have hr := hC _ (List.mem_of_getElem? hq)
    have hsp : C.flatMap (bitsOf 4) = (C.take i).flatMap (bitsOf 4) ++ bitsOf 4 c ++ (C.drop (i + 1)).flatMap (bitsOf 4) := by
      have := ch_snoc hq []
      simp only [List.nil_append] at this
      rw [this, ← List.flatMap_append, List.take_append_drop]
    have e1 : bs = (xs ++ (C.take i).flatMap (bitsOf 4)) ++ bitsOf 4 c ++ ((C.drop (i + 1)).flatMap (bitsOf 4) ++ ys) := by rw [h, hsp]; simp only [List.append_assoc]
    have hlen : (xs ++ (C.take i).flatMap (bitsOf 4)).length = xs.length + 4 * i := by rw [List.length_append, ch_len, List.length_take]; omega
    have p16 : (2 : Int) ^ 4 = 16 := rfl
    have h1 := uns_of (a := xs.length + 4 * i) (a' := xs.length + 4 * (i + 1)) hd hl e1 (by decide) (by rw [p16]; exact hr) hlen.symm (by omega)
    have := chR_succ ih h1
    rw [this, List.take_add_one, hq]
    rfl
theorem chR_bits {d : ByteArray} : ∀ (k : Nat) {a a' : Nat} {e : Int} {L : List Int}, chR d a e k = (L, a', 0) → a ≤ 8 * d.size → e = 0 ∧ a' ≤ 8 * d.size ∧ dbits d 0 a' = dbits d 0 a ++ L.flatMap (bitsOf 4)
  | 0, a, a', e, L, h, ha => by
    simp only [chR, Prod.mk.injEq] at h
    obtain ⟨rfl, rfl, rfl⟩ := h
    exact ⟨rfl, ha, by simp⟩
  | k + 1, a, a', e, L, h, ha => by
    obtain ⟨L0, a0, e0, h0⟩ : ∃ x y z, chR d a e k = (x, y, z) := ⟨_, _, _, rfl⟩
    obtain ⟨v1, a1, e1, h1⟩ : ∃ x y z, unsR d a0 e0 4 = (x, y, z) := ⟨_, _, _, rfl⟩
    rw [chR_succ h0 h1] at h
    simp only [Prod.mk.injEq] at h
    obtain ⟨rfl, rfl, rfl⟩ := h
    have l0 := chR_le h0 ha
    obtain ⟨rfl, p1, p2, p3⟩ := uns_bits h1 l0 (by decide)
    obtain ⟨hz, o2, o3⟩ := chR_bits k h0 ha
    refine ⟨hz, p2, ?_⟩
    rw [p3, o3]
    simp only [List.flatMap_append, List.append_assoc, List.flatMap_cons, List.flatMap_nil, List.append_nil]
    rfl
theorem wd8n : (wdth 8).toNat = 4 := by rw [wd8]; rfl
theorem rdO_none {d : ByteArray} {root v1 : Int} {op fl : Bool} {run : ByteArray} {a1 a2 a3 a4 : Nat} {e1 e2 e3 e4 : Int} (h1 : unsR d 0 0 5 = (root, a1, e1)) (h2 : flgR d a1 e1 = (op, a2, e2)) (h3 : txtR d a2 e2 8 = (run, a3, e3)) (h4 : flgR d a3 e3 = (false, a4, e4)) : rdO d = ((root, op, run, 0, 0, 0, []), a4, e4) := by
  unfold rdO u_ f_ t_
  dsimp only
  rw [h1]; dsimp only
  rw [h2]; dsimp only
  rw [h3]; dsimp only
  rw [h4]; dsimp only
  rw [if_neg (by simp)]
theorem rdO_some {d : ByteArray} {root v f u p : Int} {op : Bool} {run : ByteArray} {C : List Int} {a1 a2 a3 a4 a5 a6 a7 a8 a9 : Nat} {e1 e2 e3 e4 e5 e6 e7 e8 e9 : Int} (h1 : unsR d 0 0 5 = (root, a1, e1)) (h2 : flgR d a1 e1 = (op, a2, e2)) (h3 : txtR d a2 e2 8 = (run, a3, e3)) (h4 : flgR d a3 e3 = (true, a4, e4))
    (h5 : unsR d a4 e4 8 = (v, a5, e5)) (h6 : unsR d a5 e5 27 = (f, a6, e6)) (h7 : unsR d a6 e6 27 = (u, a7, e7)) (h8 : unsR d a7 e7 4 = (p, a8, e8)) (h9 : chR d a8 e8 (p + 1).toNat = (C, a9, e9)) : rdO d = ((root, op, run, v, f, u, C), a9, e9) := by
  unfold rdO u_ f_ t_ lsH u_
  dsimp only
  rw [h1]; dsimp only
  rw [h2]; dsimp only
  rw [h3]; dsimp only
  rw [h4]; dsimp only
  rw [if_pos rfl]
  rw [h5]; dsimp only
  rw [h6]; dsimp only
  rw [h7]; dsimp only
  rw [h8]; dsimp only
  rw [h9]
theorem chkO_bits {root : Int} {run : ByteArray} {v f u : Int} {C : List Int} (h : chkO root run v f u C = 0) (hn : noneB v f u C.length = false) : (0 ≤ v ∧ v ≤ 255) ∧ (0 ≤ f ∧ f < 134217728) ∧ (0 ≤ u ∧ u < 134217728) ∧ (1 ≤ C.length ∧ C.length ≤ 16) ∧ ∀ c ∈ C, 0 ≤ c ∧ c < 16 := by
  obtain ⟨_, _, h | h⟩ := chkO_zero h
  · rw [hn] at h; cases h
  · obtain ⟨h1, h2, h3, h4, h5⟩ := chkH_0 h
    obtain ⟨q1, q2, q3⟩ := chOK_len h5
    exact ⟨h1, by omega, by omega, ⟨q1, q2⟩, q3⟩
theorem rdO_enc {root : Int} {op : Bool} {run : ByteArray} {v f u : Int} {C : List Int} (h : chkO root run v f u C = 0) : rdO (pkB (ofB root op run v f u C)) = ((root, op, run, v, f, u, C), (ofB root op run v f u C).length, 0) := by
  obtain ⟨hr, hrun, _⟩ := chkO_zero h
  have hd := dbits_pk _ (ofB_01 root op run v f u C)
  have hl := pk_le (ofB root op run v f u C)
  have h01 : B01 (ofB root op run v f u C) := ofB_01 root op run v f u C
  obtain ⟨tl, htl⟩ : ∃ tl, (if noneB v f u C.length = true then [] else bitsOf 8 v ++ bitsOf 27 f ++ bitsOf 27 u ++ bitsOf 4 ((C.length : Int) - 1) ++ C.flatMap (bitsOf 4)) = tl := ⟨_, rfl⟩
  have hbs : ofB root op run v f u C = bitsOf 5 root ++ (bitsOf 1 (if op = true then 1 else 0) ++ (bitsOf 4 run.size ++ (strBits run run.size ++ (bitsOf 1 (if (!noneB v f u C.length) = true then 1 else 0) ++ tl)))) := by
    rw [← htl]
    unfold ofB
    simp only [List.append_assoc]
  have htx := txtR_back (ofB root op run v f u C) (bitsOf 5 root ++ bitsOf 1 (if op = true then 1 else 0)) (bitsOf 1 (if (!noneB v f u C.length) = true then 1 else 0) ++ tl) h01 8 run (by decide) (by omega) (by rw [hbs, wd8n]; simp only [List.append_assoc])
  generalize ofB root op run v f u C = bs at *
  generalize pkB bs = d at *
  have b1 : (bitsOf 5 root).length = 5 := bitsOf_len _ _
  have b2 : (bitsOf 1 (if op = true then 1 else 0)).length = 1 := bitsOf_len _ _
  have b3 : (bitsOf 4 (run.size : Int)).length = 4 := bitsOf_len _ _
  have b4 := strBits_len run run.size
  have b5 : (bitsOf 1 (if (!noneB v f u C.length) = true then 1 else 0)).length = 1 := bitsOf_len _ _
  have h1 : unsR d 0 0 5 = (root, 5, 0) := uns_of (w := 5) (xs := []) hd hl (by rw [hbs]; rfl) (by decide) (by rw [show (2 : Int) ^ 5 = 32 from rfl]; omega) rfl rfl
  have h2 : flgR d 5 0 = (op, 6, 0) := flg_of (xs := bitsOf 5 root) hd hl (by rw [hbs]; simp only [List.append_assoc]; first | done | rfl) b1.symm rfl
  have h3 : txtR d 6 0 8 = (run, 10 + 8 * run.size, 0) := by
    rw [List.length_append, b1, b2, wd8n] at htx
    exact htx
  have h4 : flgR d (10 + 8 * run.size) 0 = (!noneB v f u C.length, 11 + 8 * run.size, 0) := flg_of (xs := bitsOf 5 root ++ bitsOf 1 (if op = true then 1 else 0) ++ bitsOf 4 run.size ++ strBits run run.size) hd hl (by rw [hbs]; simp only [List.append_assoc]; first | done | rfl) (by simp only [List.length_append]; omega) (by omega)
  by_cases hn : noneB v f u C.length = true
  · rw [if_pos hn] at htl
    rw [hn] at h4 hbs b5
    subst htl
    have hbl : bs.length = 11 + 8 * run.size := by
      rw [hbs]
      simp only [List.length_append, List.length_nil]
      omega
    rw [rdO_none (v1 := 0) (fl := true) h1 h2 h3 h4, hbl]
    obtain ⟨rfl, rfl, rfl, h0⟩ := of_decide_eq_true hn
    obtain rfl : C = [] := List.eq_nil_of_length_eq_zero (by omega)
    rfl
  · have hn : noneB v f u C.length = false := by simpa using hn
    rw [if_neg (by rw [hn]; simp)] at htl
    rw [hn] at h4 hbs b5
    obtain ⟨r1, r2, r3, r4, r5⟩ := chkO_bits h hn
    have b6 : (bitsOf 8 v).length = 8 := bitsOf_len _ _
    have b7 : (bitsOf 27 f).length = 27 := bitsOf_len _ _
    have b8' : (bitsOf 27 u).length = 27 := bitsOf_len _ _
    have b9 : (bitsOf 4 ((C.length : Int) - 1)).length = 4 := bitsOf_len _ _
    have b10 := ch_len C
    subst htl
    have hxs : bs = (bitsOf 5 root ++ bitsOf 1 (if op = true then 1 else 0) ++ bitsOf 4 run.size ++ strBits run run.size ++ bitsOf 1 (if (!false) = true then 1 else 0)) ++ (bitsOf 8 v ++ (bitsOf 27 f ++ (bitsOf 27 u ++ (bitsOf 4 ((C.length : Int) - 1) ++ C.flatMap (bitsOf 4))))) := by rw [hbs]; simp only [List.append_assoc]
    obtain ⟨xs, hx⟩ : ∃ xs, bitsOf 5 root ++ bitsOf 1 (if op = true then 1 else 0) ++ bitsOf 4 run.size ++ strBits run run.size ++ bitsOf 1 (if (!false) = true then 1 else 0) = xs := ⟨_, rfl⟩
    have bx : xs.length = 11 + 8 * run.size := by rw [← hx]; simp only [List.length_append]; omega
    rw [hx] at hxs
    have h5 : unsR d (11 + 8 * run.size) 0 8 = (v, 19 + 8 * run.size, 0) := uns_of (w := 8) (xs := xs) hd hl (by rw [hxs]; simp only [List.append_assoc]; first | done | rfl) (by decide) (by rw [show (2 : Int) ^ 8 = 256 from rfl]; omega) bx.symm (by omega)
    have h6 : unsR d (19 + 8 * run.size) 0 27 = (f, 46 + 8 * run.size, 0) := uns_of (w := 27) (xs := xs ++ bitsOf 8 v) hd hl (by rw [hxs]; simp only [List.append_assoc]; first | done | rfl) (by decide) (by rw [show (2 : Int) ^ 27 = 134217728 from rfl]; omega) (by rw [List.length_append]; omega) (by omega)
    have h7 : unsR d (46 + 8 * run.size) 0 27 = (u, 73 + 8 * run.size, 0) := uns_of (w := 27) (xs := xs ++ bitsOf 8 v ++ bitsOf 27 f) hd hl (by rw [hxs]; simp only [List.append_assoc]; first | done | rfl) (by decide) (by rw [show (2 : Int) ^ 27 = 134217728 from rfl]; omega) (by simp only [List.length_append]; omega) (by omega)
    have h8 : unsR d (73 + 8 * run.size) 0 4 = ((C.length : Int) - 1, 77 + 8 * run.size, 0) := uns_of (w := 4) (xs := xs ++ bitsOf 8 v ++ bitsOf 27 f ++ bitsOf 27 u) hd hl (by rw [hxs]; simp only [List.append_assoc]; first | done | rfl) (by decide) (by rw [show (2 : Int) ^ 4 = 16 from rfl]; omega) (by simp only [List.length_append]; omega) (by omega)
    have h9 := chR_of (xs := xs ++ bitsOf 8 v ++ bitsOf 27 f ++ bitsOf 27 u ++ bitsOf 4 ((C.length : Int) - 1)) (ys := []) hd hl (by rw [hxs]; simp only [List.append_assoc, List.append_nil]) r5 C.length (Nat.le_refl _)
    have hxl : (xs ++ bitsOf 8 v ++ bitsOf 27 f ++ bitsOf 27 u ++ bitsOf 4 ((C.length : Int) - 1)).length = 77 + 8 * run.size := by simp only [List.length_append]; omega
    rw [hxl, List.take_length] at h9
    have hbl : bs.length = 77 + 8 * run.size + 4 * C.length := by
      rw [hxs]
      simp only [List.length_append]
      omega
    rw [hbl]
    exact rdO_some h1 h2 h3 h4 h5 h6 h7 h8 (by rw [show (((C.length : Int) - 1) + 1).toNat = C.length by omega]; exact h9)
theorem dec_enc {root : Int} {op : Bool} {run : ByteArray} {v f u : Int} {C : List Int} (h : chkO root run v f u C = 0) : decO (pkB (ofB root op run v f u C)) = ((root, op, run, v, f, u, C), 0) := dec_good (rdO_enc h) (close_pk _ (ofB_01 root op run v f u C)) h
theorem enc_len {root : Int} {op : Bool} {run : ByteArray} {v f u : Int} {C : List Int} (h : chkO root run v f u C = 0) : (pkB (ofB root op run v f u C)).size ≤ 28 := by
  rw [pkB_size]
  obtain ⟨_, hrun, _⟩ := chkO_zero h
  have b4 := strBits_len run run.size
  have b10 := ch_len C
  have hC := chkO_len h
  obtain ⟨tl, htl⟩ : ∃ tl, (if noneB v f u C.length = true then [] else bitsOf 8 v ++ bitsOf 27 f ++ bitsOf 27 u ++ bitsOf 4 ((C.length : Int) - 1) ++ C.flatMap (bitsOf 4)) = tl := ⟨_, rfl⟩
  have hl : tl.length ≤ 130 := by
    rw [← htl]
    split
    · exact Nat.zero_le _
    · simp only [List.length_append, bitsOf_len]; omega
  have : (ofB root op run v f u C).length ≤ 205 := by
    unfold ofB
    rw [htl]
    simp only [List.length_append, bitsOf_len]
    omega
  omega
theorem rdO_bits {d : ByteArray} {m : OfT} {a : Nat} (h : rdO d = (m, a, 0)) : a ≤ 8 * d.size ∧ dbits d 0 a = ofB m.1 m.2.1 m.2.2.1 m.2.2.2.1 m.2.2.2.2.1 m.2.2.2.2.2.1 m.2.2.2.2.2.2 := by
  obtain ⟨root, a1, e1, h1⟩ : ∃ x y z, unsR d 0 0 5 = (x, y, z) := ⟨_, _, _, rfl⟩
  obtain ⟨op, a2, e2, h2⟩ : ∃ x y z, flgR d a1 e1 = (x, y, z) := ⟨_, _, _, rfl⟩
  obtain ⟨run, a3, e3, h3⟩ : ∃ x y z, txtR d a2 e2 8 = (x, y, z) := ⟨_, _, _, rfl⟩
  obtain ⟨fl, a4, e4, h4⟩ : ∃ x y z, flgR d a3 e3 = (x, y, z) := ⟨_, _, _, rfl⟩
  have l1 := unsR_le h1 (Nat.zero_le _) (by decide)
  have l2 := flgR_le h2 l1
  have l3 := txtR_le h3 l2 (by decide)
  have l4 := flgR_le h4 l3
  cases fl
  · rw [rdO_none (v1 := 0) (fl := true) h1 h2 h3 h4] at h
    simp only [Prod.mk.injEq] at h
    obtain ⟨rfl, rfl, rfl⟩ := h
    refine ⟨l4, ?_⟩
    obtain ⟨rfl, _, _, g4⟩ := flg_bits h4 l3
    obtain ⟨rfl, _, _, _, g3⟩ := txt_bits h3 l2 (by decide)
    obtain ⟨rfl, _, _, g2⟩ := flg_bits h2 l1
    obtain ⟨_, _, _, g1⟩ := uns_bits h1 (Nat.zero_le _) (by decide)
    rw [g4, g3, g2, g1, wd8n]
    unfold ofB
    rw [show noneB 0 0 0 ([] : List Int).length = true from rfl, if_pos rfl]
    simp only [List.append_assoc]
    rfl
  · obtain ⟨v, a5, e5, h5⟩ : ∃ x y z, unsR d a4 e4 8 = (x, y, z) := ⟨_, _, _, rfl⟩
    obtain ⟨f, a6, e6, h6⟩ : ∃ x y z, unsR d a5 e5 27 = (x, y, z) := ⟨_, _, _, rfl⟩
    obtain ⟨u, a7, e7, h7⟩ : ∃ x y z, unsR d a6 e6 27 = (x, y, z) := ⟨_, _, _, rfl⟩
    obtain ⟨p, a8, e8, h8⟩ : ∃ x y z, unsR d a7 e7 4 = (x, y, z) := ⟨_, _, _, rfl⟩
    obtain ⟨C, a9, e9, h9⟩ : ∃ x y z, chR d a8 e8 (p + 1).toNat = (x, y, z) := ⟨_, _, _, rfl⟩
    rw [rdO_some h1 h2 h3 h4 h5 h6 h7 h8 h9] at h
    simp only [Prod.mk.injEq] at h
    obtain ⟨rfl, rfl, rfl⟩ := h
    have l5 := unsR_le h5 l4 (by decide)
    have l6 := unsR_le h6 l5 (by decide)
    have l7 := unsR_le h7 l6 (by decide)
    have l8 := unsR_le h8 l7 (by decide)
    have hp := (unsR_rng h8 (by decide)).1
    have hcl := chR_len h9
    have hC : ((C.length : Nat) : Int) - 1 = p := by omega
    obtain ⟨rfl, l9, g9⟩ := chR_bits _ h9 l8
    obtain ⟨rfl, _, _, g8⟩ := uns_bits h8 l7 (by decide)
    obtain ⟨rfl, _, _, g7⟩ := uns_bits h7 l6 (by decide)
    obtain ⟨rfl, _, _, g6⟩ := uns_bits h6 l5 (by decide)
    obtain ⟨rfl, _, _, g5⟩ := uns_bits h5 l4 (by decide)
    obtain ⟨rfl, _, _, g4⟩ := flg_bits h4 l3
    obtain ⟨rfl, _, _, _, g3⟩ := txt_bits h3 l2 (by decide)
    obtain ⟨rfl, _, _, g2⟩ := flg_bits h2 l1
    obtain ⟨_, _, _, g1⟩ := uns_bits h1 (Nat.zero_le _) (by decide)
    refine ⟨l9, ?_⟩
    rw [g9, g8, g7, g6, g5, g4, g3, g2, g1, wd8n]
    unfold ofB
    rw [show noneB v f u C.length = false from decide_eq_false (by omega)]
    dsimp only
    rw [hC, if_neg (show ¬ (false = true) by simp)]
    simp only [List.append_assoc]
    rfl
theorem dec_back (d : ByteArray) : ∃ root op run v f u C x, decO d = ((root, op, run, v, f, u, C), x) ∧ C.length ≤ 16 ∧ (x = 10 ∨ (x = 0 ∧ chkO root run v f u C = 0 ∧ pkB (ofB root op run v f u C) = d)) := by
  rcases decO_cases d with h | ⟨h1, h2, h3⟩
  · exact ⟨_, _, _, _, _, _, _, _, h, by decide, .inl rfl⟩
  · obtain ⟨⟨root, op, run, v, f, u, C⟩, a, e, hr⟩ : ∃ m a e, rdO d = (m, a, e) := ⟨_, _, _, rfl⟩
    rw [hr] at h1 h2 h3
    dsimp only at h1
    obtain rfl : e = 0 := by
      unfold closeR at h1
      by_cases he : e = 0
      · exact he
      · rw [if_pos he] at h1; exact h1
    obtain ⟨hb1, hb2⟩ := rdO_bits hr
    refine ⟨_, _, _, _, _, _, _, _, h3, chkO_len h2, .inr ⟨rfl, h2, ?_⟩⟩
    rw [← pk_close hb1 h1, hb2]
end Go.Proofs.Ytfabgdignlfihaa
