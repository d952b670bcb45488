/- Join: members searched and copied; Join: requests that are refused. -/
import Derived.Test.YtdbcbclapipgdaaGreatDoorVO
import Derived.Test.YtdbcbclapipgdaaGreatDoorJ
import Derived.Test.YtdbcbclapipgdaaGreatDoorC36
set_option linter.unusedVariables false
set_option linter.unusedSimpArgs false
namespace Go.Proofs.YtdbcbclapipgdaaGreatDoor
open Go Av
set_option maxRecDepth 20000
theorem ac_adc (nm sec q : ByteArray) (nd no : Int) : ACalls Tryz.prog 65 [.agg #[.string nm, .string sec, .int .i64 nd, .int .i64 no], .string q] [] (.int .i64 (cmS nm q)) [] := by
  have H := ac_cmS nm q
  obtain ⟨x, hx⟩ : ∃ x, cmS nm q = x := ⟨_, rfl⟩
  rw [hx] at H ⊢
  refine acalls_law Tryz.func65 rfl rfl rfl ?_
  repeat' first | intro h1 | intro h1 | refine st ?_ | refine st_call (H) ?_ | refine sd_call (H) ?_ | refine stm ?_ | refine Ja ?_ | refine Jb ?_ | refine Jc ?_ | refine Jd ?_ | refine Je ?_ | refine Jf ?_ | refine Jg ?_ | refine Jh ?_ ?_ | refine Ji ?_ ?_ | refine Jj ?_ ?_ | refine run_nil ?_ | refine Jz ?_ | refine Jw ?_ | refine aw_block ?_ | refine Jq ?_ | refine Jr ?_ | refine Js ?_ | refine Jt ?_ | refine Ju ?_ ?_ | refine Jv ?_ ?_ | refine Jy ?_ | refine aw_exit ?_ | refine aw_ret ?_ | refine pp_ret ?_ | refine pp_normal ?_
  all_goals first
    | rfl
    | (exfalso; omega)
    | (simp [retOf]; done)
    | (exfalso; simp_all; done)
    | (exfalso; simp only [Bool.not_eq_true', Bool.not_eq_false', decide_eq_true_eq, decide_eq_false_iff_not, Bool.not_false, Bool.not_true] at *; omega)
theorem cmS_neg (s u : ByteArray) : cmS s u < 0 ↔ ltS s u = true := by
  unfold cmS
  split
  · exact ⟨fun _ => by assumption, fun _ => by omega⟩
  · rename_i h
    exact ⟨fun h2 => by split at h2 <;> omega, fun h2 => absurd h2 h⟩
theorem cmS_zero (s u : ByteArray) : cmS s u = 0 ↔ s = u := by
  unfold cmS
  split
  · rename_i h
    refine ⟨fun h2 => by omega, fun h2 => ?_⟩
    rw [h2, lt_irr] at h
    cases h
  · split
    · exact ⟨fun _ => by assumption, fun _ => rfl⟩
    · rename_i h
      exact ⟨fun h2 => by omega, fun h2 => absurd h2 h⟩
theorem sr_lt {L : List Mb} (g : mmB L = true) {i j : Nat} {a b : Mb} (hij : i ≤ j) (ha : L[i]? = some a) (hb : L[j]? = some b) {q : ByteArray} (h : ltS b.nm q = true) : ltS a.nm q = true := by
  by_cases e : i = j
  · subst e
    rw [ha] at hb
    cases hb
    exact h
  · have := gd_lt g (show i < j by omega) (List.getElem?_eq_some_iff.1 hb).1 (Nat.le_refl _)
    rw [nmAt_at ha, nmAt_at hb] at this
    exact lt_trans' this h
structure Bz where
  lo : Nat
  hi : Nat
theorem ok_shrM {P : Program} {ρ : Operand → Option Value} {m : Mem} {d : Option Tmp} {t : TypeId} {pp : String} {af : Array Edge} {g : Option (Nat × Bool)} {xt x y yt k k' a b} {c : Int} (hc : a / 2 ^ (min b.toNat k.bits) = c) (hx : ρ x = some (.int k a)) (hy : ρ y = some (.int k' b)) (h : 0 ≤ b) : OpOK P ⟨d, .binOp .shr xt x y yt, t, pp, af, g⟩ ρ m (.int k c) m := hc ▸ ok_shr hx hy h
set_option maxHeartbeats 8000000 in
theorem ac_srch (L : List Mb) (n : Nat) (hn : L.length = n) (hb : n ≤ 1000000) (q : ByteArray) (g : mmB L = true) : ∃ (i : Nat) (b : Bool), i ≤ n ∧ (∀ (j : Nat) (c : Mb), j < i → L[j]? = some c → ltS c.nm q = true) ∧ (∀ (j : Nat) (c : Mb), i ≤ j → L[j]? = some c → ltS c.nm q = false) ∧ (match L[i]? with | some c => decide (c.nm = q) | none => false) = b ∧ ACalls Tryz.prog 64 [.slice (some ⟨0, 0, none⟩) n n, .string q, .func (.func 65) #[] #[]] [some ⟨L.flatMap mbC, false, 4⟩] (.tuple #[.int .i64 i, .bool b]) [none] := by
  obtain ⟨i, hi1, hi2, hi3⟩ : ∃ i, i ≤ n ∧ (∀ (j : Nat) (c : Mb), j < i → L[j]? = some c → ltS c.nm q = true) ∧ (∀ (j : Nat) (c : Mb), i ≤ j → L[j]? = some c → ltS c.nm q = false) := by
    refine ⟨L.findIdx fun c => !ltS c.nm q, by rw [← hn]; exact List.findIdx_le_length, fun j c hj hc => ?_, fun j c hj hc => ?_⟩
    · have hl := (List.getElem?_eq_some_iff.1 hc)
      have := List.not_of_lt_findIdx hj
      rw [hl.2] at this
      simpa using this
    · obtain ⟨hl, hx⟩ := List.getElem?_eq_some_iff.1 hc
      have hlt : L.findIdx (fun c => !ltS c.nm q) < L.length := by omega
      have h1 := List.findIdx_getElem (w := hlt)
      cases h4 : ltS c.nm q with
      | false => rfl
      | true =>
        rw [sr_lt g hj (List.getElem?_eq_getElem hlt) hc h4] at h1
        cases h1
  obtain ⟨b, hb'⟩ : ∃ b, (match L[i]? with | some c => decide (c.nm = q) | none => false) = b := ⟨_, rfl⟩
  refine ⟨i, b, hi1, hi2, hi3, hb', ?_⟩
  refine acalls_law Tryz.func64 rfl rfl rfl ?_
  repeat' first | intro h1 | intro h1 | refine st ?_ | refine stm ?_ | refine Ja ?_ | refine Jb ?_ | refine Jc ?_ | refine Jd ?_ | refine Je ?_ | refine Jf ?_ | refine Jg ?_ | refine Jh ?_ ?_ | refine Ji ?_ ?_ | refine Jj ?_ ?_ | refine run_nil ?_ | refine Jz ?_ | refine Jw ?_ | refine aw_block ?_ | refine Jq ?_ | refine Jr ?_ | refine Js ?_ | refine Jt ?_ | refine Ju ?_ ?_ | refine Jv ?_ ?_ | refine Jy ?_ | refine aw_exit ?_ | refine aw_ret ?_ | refine pp_ret ?_ | refine pp_normal ?_
  refine aw_loopg
    (S := fun y : Bz => [(0, .slice (some ⟨0, 0, none⟩) n n), (1, .string q), (2, .func (.func 65) #[] #[]), (8, .int .i64 n), (9, .int .i64 y.lo), (10, .int .i64 y.hi)])
    (B := fun _ : Bz => [some ⟨L.flatMap mbC, false, 4⟩])
    (R := fun y : Bz => y.lo ≤ i ∧ i ≤ y.hi ∧ y.hi ≤ n)
    (μ := fun y : Bz => y.hi - y.lo) ⟨0, n⟩ (fitsD [0]) ⟨Nat.zero_le _, hi1, Nat.le_refl _⟩ ?_
  rintro ⟨lo, hi⟩ ⟨g1, g2, g3⟩
  dsimp only at *
  by_cases hlh : lo < hi
  · obtain ⟨mid, hmid⟩ : ∃ mid, (lo + hi) / 2 = mid := ⟨_, rfl⟩
    have hsh : ((lo : Int) + hi) / 2 ^ (min (1 : Int).toNat IntKind.u64.bits) = (mid : Int) := by
      rw [show min (1 : Int).toNat IntKind.u64.bits = 1 from rfl]
      omega
    obtain ⟨⟨nm, sec, nd, no⟩, hc⟩ : ∃ c, L[mid]? = some c := ⟨_, List.getElem?_eq_getElem (by omega)⟩
    have H := ac_adc nm sec q nd no
    obtain ⟨x, hx⟩ : ∃ x, cmS nm q = x := ⟨_, rfl⟩
    have hxs := cmS_neg nm q
    rw [hx] at H hxs
    cases hs : ltS nm q with
    | true =>
      have hi4 : mid < i := by
        rcases Nat.lt_or_ge mid i with h | h
        · exact h
        · have := hi3 mid _ h hc
          dsimp only at this
          rw [hs] at this
          cases this
      have hx0 := hxs.2 hs
      clear hxs hi2 hi3 hb'
      repeat' first | intro h1 | intro h1 | refine st (h := ok_shrM hsh rfl rfl (by omega)) ?_ | refine sd (h := ok_shrM hsh rfl rfl (by omega)) ?_ | refine st (h := ok_load_rowsE (f := mbC) (cs := [.string nm, .string sec, .int .i64 nd, .int .i64 no]) mid (fun _ => rfl) hc rfl rfl rfl rfl (by omega)) ?_ | refine sd (h := ok_load_rowsE (f := mbC) (cs := [.string nm, .string sec, .int .i64 nd, .int .i64 no]) mid (fun _ => rfl) hc rfl rfl rfl rfl (by omega)) ?_ | refine sdl (h := ok_load_rowsE (f := mbC) (cs := [.string nm, .string sec, .int .i64 nd, .int .i64 no]) mid (fun _ => rfl) hc rfl rfl rfl rfl (by omega)) ?_ | refine st ?_ | refine st_call (H) ?_ | refine sd_call (H) ?_ | refine stm ?_ | refine Ja ?_ | refine Jb ?_ | refine Jc ?_ | refine Jd ?_ | refine Je ?_ | refine Jf ?_ | refine Jg ?_ | refine Jh ?_ ?_ | refine Ji ?_ ?_ | refine Jj ?_ ?_ | refine run_nil ?_ | refine Jz ?_ | refine Jw ?_ | refine aw_block ?_ | refine Jq ?_ | refine Jr ?_ | refine Js ?_ | refine Jt ?_ | refine Ju ?_ ?_ | refine Jv ?_ ?_ | refine Jy ?_ | refine aw_exit ?_ | refine aw_ret ?_ | refine pp_ret ?_ | refine pp_normal ?_
      all_goals first | exact Exists.intro ⟨mid + 1, hi⟩ ⟨fitsD [0], ⟨by dsimp only; omega, by dsimp only; omega, by dsimp only; omega⟩, by dsimp only; omega⟩ | (exfalso; omega)
    | false =>
      have hi4 : i ≤ mid := by
        rcases Nat.lt_or_ge mid i with h | h
        · have := hi2 mid _ h hc
          dsimp only at this
          rw [hs] at this
          cases this
        · exact h
      have hx0 : ¬ x < 0 := fun h => by rw [hxs.1 h] at hs; cases hs
      clear hxs hi2 hi3 hb'
      repeat' first | intro h1 | intro h1 | refine st (h := ok_shrM hsh rfl rfl (by omega)) ?_ | refine sd (h := ok_shrM hsh rfl rfl (by omega)) ?_ | refine st (h := ok_load_rowsE (f := mbC) (cs := [.string nm, .string sec, .int .i64 nd, .int .i64 no]) mid (fun _ => rfl) hc rfl rfl rfl rfl (by omega)) ?_ | refine sd (h := ok_load_rowsE (f := mbC) (cs := [.string nm, .string sec, .int .i64 nd, .int .i64 no]) mid (fun _ => rfl) hc rfl rfl rfl rfl (by omega)) ?_ | refine sdl (h := ok_load_rowsE (f := mbC) (cs := [.string nm, .string sec, .int .i64 nd, .int .i64 no]) mid (fun _ => rfl) hc rfl rfl rfl rfl (by omega)) ?_ | refine st ?_ | refine st_call (H) ?_ | refine sd_call (H) ?_ | refine stm ?_ | refine Ja ?_ | refine Jb ?_ | refine Jc ?_ | refine Jd ?_ | refine Je ?_ | refine Jf ?_ | refine Jg ?_ | refine Jh ?_ ?_ | refine Ji ?_ ?_ | refine Jj ?_ ?_ | refine run_nil ?_ | refine Jz ?_ | refine Jw ?_ | refine aw_block ?_ | refine Jq ?_ | refine Jr ?_ | refine Js ?_ | refine Jt ?_ | refine Ju ?_ ?_ | refine Jv ?_ ?_ | refine Jy ?_ | refine aw_exit ?_ | refine aw_ret ?_ | refine pp_ret ?_ | refine pp_normal ?_
      all_goals first | exact Exists.intro ⟨lo, mid⟩ ⟨fitsD [0], ⟨by dsimp only; omega, by dsimp only; omega, by dsimp only; omega⟩, by dsimp only; omega⟩ | (exfalso; omega)
  · obtain rfl : lo = i := by omega
    clear hi2 hi3
    by_cases hln : lo < n
    · obtain ⟨⟨nm, sec, nd, no⟩, hc⟩ : ∃ c, L[lo]? = some c := ⟨_, List.getElem?_eq_getElem (by omega)⟩
      have H := ac_adc nm sec q nd no
      obtain ⟨x, hx⟩ : ∃ x, cmS nm q = x := ⟨_, rfl⟩
      have hxs := cmS_zero nm q
      rw [hx] at H hxs
      rw [hc] at hb'
      dsimp only at hb'
      have hbx : decide (x = 0) = b := by rw [← hb']; exact decide_eq_decide.2 hxs
      clear hxs hb'
      repeat' first | intro h1 | intro h1 | refine st (h := ok_eqlD rfl rfl hbx) ?_ | refine sd (h := ok_eqlD rfl rfl hbx) ?_ | refine st (h := ok_load_rowsE (f := mbC) (cs := [.string nm, .string sec, .int .i64 nd, .int .i64 no]) lo (fun _ => rfl) hc rfl rfl rfl rfl (by omega)) ?_ | refine sd (h := ok_load_rowsE (f := mbC) (cs := [.string nm, .string sec, .int .i64 nd, .int .i64 no]) lo (fun _ => rfl) hc rfl rfl rfl rfl (by omega)) ?_ | refine sdl (h := ok_load_rowsE (f := mbC) (cs := [.string nm, .string sec, .int .i64 nd, .int .i64 no]) lo (fun _ => rfl) hc rfl rfl rfl rfl (by omega)) ?_ | refine st ?_ | refine st_call (H) ?_ | refine sd_call (H) ?_ | refine stm ?_ | refine Ja ?_ | refine Jb ?_ | refine Jc ?_ | refine Jd ?_ | refine Je ?_ | refine Jf ?_ | refine Jg ?_ | refine Jh ?_ ?_ | refine Ji ?_ ?_ | refine Jj ?_ ?_ | refine run_nil ?_ | refine Jz ?_ | refine Jw ?_ | refine aw_block ?_ | refine Jq ?_ | refine Jr ?_ | refine Js ?_ | refine Jt ?_ | refine Ju ?_ ?_ | refine Jv ?_ ?_ | refine Jy ?_ | refine aw_exit ?_ | refine aw_ret ?_ | refine pp_ret ?_ | refine pp_normal ?_
      all_goals first
        | rfl
        | (exfalso; omega)
        | (simp [retOf]; done)
        | (exfalso; simp_all; done)
        | (exfalso; simp only [Bool.not_eq_true', Bool.not_eq_false', decide_eq_true_eq, decide_eq_false_iff_not, Bool.not_false, Bool.not_true] at *; omega)
    · rw [List.getElem?_eq_none (by omega)] at hb'
      subst hb'
      repeat' first | intro h1 | intro h1 | refine st ?_ | refine stm ?_ | refine Ja ?_ | refine Jb ?_ | refine Jc ?_ | refine Jd ?_ | refine Je ?_ | refine Jf ?_ | refine Jg ?_ | refine Jh ?_ ?_ | refine Ji ?_ ?_ | refine Jj ?_ ?_ | refine run_nil ?_ | refine Jz ?_ | refine Jw ?_ | refine aw_block ?_ | refine Jq ?_ | refine Jr ?_ | refine Js ?_ | refine Jt ?_ | refine Ju ?_ ?_ | refine Jv ?_ ?_ | refine Jy ?_ | refine aw_exit ?_ | refine aw_ret ?_ | refine pp_ret ?_ | refine pp_normal ?_
      all_goals first
        | rfl
        | (exfalso; omega)
        | (simp [retOf]; done)
        | (exfalso; simp_all; done)
        | (exfalso; simp only [Bool.not_eq_true', Bool.not_eq_false', decide_eq_true_eq, decide_eq_false_iff_not, Bool.not_false, Bool.not_true] at *; omega)
set_option maxHeartbeats 2000000 in
theorem ac_clM (L : List Mb) (n : Nat) (hn : L.length = n) (hb : n ≤ 1000000) (h0 : n ≠ 0) : ACalls Tryz.prog 68 [.slice (some ⟨0, 0, none⟩) n n] [some ⟨L.flatMap mbC, false, 4⟩] (.slice (some ⟨1, 0, none⟩) n n) [none, some ⟨L.flatMap mbC, true, 4⟩] := by
  refine acalls_of_aw Tryz.func68 rfl rfl ?_
  repeat' first | intro h1 | intro h1 | refine st (h := ok_slice_nilF rfl rfl (by omega)) ?_ | refine stm (h := by (apply ok_append0 (xs := L.flatMap mbC); rfl; rfl; rfl; rfl; rfl; rfl; (focus (refine Src.slc rfl Ty.eq rfl (by rw [mbC_all]; omega) (mbC_take hn) (mbC_one L) rfl)); (focus (exact Nat.zero_le _)); omega; (focus ((repeat constructor); first | done | fail)))) ?_ | refine st ?_ | refine stm ?_ | refine Ja ?_ | refine Jb ?_ | refine Jc ?_ | refine Jd ?_ | refine Je ?_ | refine Jf ?_ | refine Jg ?_ | refine Jh ?_ ?_ | refine Ji ?_ ?_ | refine Jj ?_ ?_ | refine run_nil ?_ | refine Jz ?_ | refine Jw ?_ | refine aw_block ?_ | refine Jq ?_ | refine Jr ?_ | refine Js ?_ | refine Jt ?_ | refine Ju ?_ ?_ | refine Jv ?_ ?_ | refine Jy ?_ | refine aw_exit ?_ | refine aw_ret ?_ | refine pp_ret ?_ | refine pp_normal ?_
  all_goals first | exact pm_ret _ (renumD [0, 2]) rfl
theorem srch_hit (L : List Mb) (n : Nat) (hn : L.length = n) (hb : n ≤ 1000000) (q : ByteArray) (g : mmB L = true) (k : Nat) (hk : ixN L q = k) (m : Mb) (hm : L[k]? = some m) : ACalls Tryz.prog 64 [.slice (some ⟨0, 0, none⟩) n n, .string q, .func (.func 65) #[] #[]] [some ⟨L.flatMap mbC, false, 4⟩] (.tuple #[.int .i64 k, .bool true]) [none] := by
  obtain ⟨i, b, h1, h2, h3, h4, H⟩ := ac_srch L n hn hb q g
  subst hk
  cases hq : L[i]? with
  | none =>
    have := sr_no g h2 h3 (fun c hc => by rw [hq] at hc; cases hc)
    rw [hm] at this
    cases this
  | some c =>
    rw [hq] at h4
    dsimp only at h4
    by_cases hc : c.nm = q
    · rw [decide_eq_true hc] at h4
      subst h4
      rw [ix_at g hq hc]
      exact H
    · have := sr_no g h2 h3 (fun c' hc' => by rw [hq] at hc'; cases hc'; exact hc)
      rw [hm] at this
      cases this
theorem ok_str_neqE {P : Program} {ρ : Operand → Option Value} {m : Mem} {d : Option Tmp} {t : TypeId} {pp : String} {af : Array Edge} {g : Option (Nat × Bool)} {xt yt : TypeId} {x y : Operand} {s u : ByteArray} {c : Bool} (hx : ρ x = some (.string s)) (hy : ρ y = some (.string u)) (h : decide (s = u) = c) : OpOK P ⟨d, .binOp .neq xt x y yt, t, pp, af, g⟩ ρ m (.bool (!c)) m := by
  subst h
  simpa only [decide_not] using ok_str_neq (P := P) (m := m) (d := d) (t := t) (pp := pp) (af := af) (g := g) (xt := xt) (yt := yt) hx hy
end Go.Proofs.YtdbcbclapipgdaaGreatDoor
