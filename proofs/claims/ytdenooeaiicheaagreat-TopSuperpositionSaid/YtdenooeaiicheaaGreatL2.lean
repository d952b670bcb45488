/- The law, plain: who received an emission receives it still. The law: its closure. -/
import Derived.Test.YtdenooeaiicheaaGreatVL
import Derived.Test.YtdenooeaiicheaaGreatZ3
import Derived.Test.YtdenooeaiicheaaGreatH2
set_option linter.unusedVariables false
set_option linter.unusedSimpArgs false
namespace Go.Proofs.YtdenooeaiicheaaGreat
open Go Av
set_option maxRecDepth 20000
/-- Where an emission lies when another one is left out. -/
def kAt (i s : Nat) : Nat := if s < i then i - 1 else i
theorem er_get {α : Type} : ∀ (E : List α) (i s : Nat) (e : α), i ≠ s → E[i]? = some e → (E.eraseIdx s)[kAt i s]? = some e := fun E i s e hne h => by
  rw [List.getElem?_eraseIdx]
  unfold kAt
  by_cases hs : s < i
  · rw [if_pos hs, if_neg (by omega), show i - 1 + 1 = i by omega]
    exact h
  · rw [if_neg hs, if_pos (by omega)]
    exact h
theorem er_sub {α : Type} : ∀ (E : List α) (i s : Nat), i ≠ s → ((E.eraseIdx s).eraseIdx (kAt i s)).Sublist (E.eraseIdx i)
  | [], i, s, _ => by simp
  | b :: E, 0, 0, h => absurd rfl h
  | b :: E, 0, s + 1, _ => by
    show ((b :: E.eraseIdx s).eraseIdx 0).Sublist E
    exact List.eraseIdx_sublist E s
  | b :: E, i + 1, 0, _ => by
    show (E.eraseIdx i).Sublist (b :: E.eraseIdx i)
    exact List.sublist_cons_self _ _
  | b :: E, i + 1, s + 1, h => by
    have hk : kAt (i + 1) (s + 1) = kAt i s + 1 := by
      unfold kAt
      by_cases hs : s < i
      · rw [if_pos hs, if_pos (by omega)]
        omega
      · rw [if_neg hs, if_neg (by omega)]
    rw [hk]
    show (b :: (E.eraseIdx s).eraseIdx (kAt i s)).Sublist (b :: E.eraseIdx i)
    exact (er_sub E i s (by omega)).cons_cons b
/-- Of the emissions at a channel that overlap another one, but for a node's. -/
def otP (nd : Int) (e b : Em) : Bool := decide (b.ch = e.ch) && (decide (b.nd ≠ nd) && ovB e.fr e.to' b.fr b.to')
theorem ot_all (nd : Int) (e : Em) : ∀ (E : List Em) (i s : Nat), i < s → ((E.zipIdx s).filter (otB i nd e)).map Prod.fst = E.filter (otP nd e)
  | [], i, s, _ => rfl
  | b :: E, i, s, h => by
    have ih := ot_all nd e E i (s + 1) (by omega)
    have hb : otB i nd e (b, s) = otP nd e b := by
      unfold otB otP
      dsimp only
      rw [decide_eq_true (show s ≠ i by omega), Bool.true_and]
    rw [List.zipIdx_cons, List.filter_cons, List.filter_cons, hb]
    cases otP nd e b
    · exact ih
    · show b :: _ = b :: _
      rw [← ih]
theorem ot_er (nd : Int) (e : Em) : ∀ (E : List Em) (i s : Nat), ((E.zipIdx s).filter (otB (s + i) nd e)).map Prod.fst = (E.eraseIdx i).filter (otP nd e)
  | [], i, s => by simp
  | b :: E, 0, s => by
    have ih := ot_all nd e E s (s + 1) (by omega)
    have hb : otB (s + 0) nd e (b, s) = false := by
      unfold otB
      dsimp only
      rw [decide_eq_false (by omega), Bool.false_and]
    rw [List.zipIdx_cons, List.filter_cons, hb]
    exact ih
  | b :: E, i + 1, s => by
    have ih := ot_er nd e E i (s + 1)
    rw [show s + 1 + i = s + (i + 1) by omega] at ih
    have hb : otB (s + (i + 1)) nd e (b, s) = otP nd e b := by
      unfold otB otP
      dsimp only
      rw [decide_eq_true (show s ≠ s + (i + 1) by omega), Bool.true_and]
    rw [List.zipIdx_cons, List.filter_cons, hb]
    show _ = (b :: E.eraseIdx i).filter _
    rw [List.filter_cons]
    cases otP nd e b
    · exact ih
    · show b :: _ = b :: _
      rw [← ih]
/-- Signals of emissions, added to a number. -/
def smS (ex : Int) (N : List P2) (Pw : List Int) (L : List Wl) (F : List Fd) (nd : Nat) (q : Int) (l : List Em) : Int := l.foldl (fun s x => s + sgX ex N Pw L F nd x) q
theorem inS_eq (ex : Int) (N : List P2) (Pw : List Int) (L : List Wl) (F : List Fd) (nd : Nat) : ∀ (l : List (Em × Nat)) (q : Int), inS ex N Pw L F nd q l = smS ex N Pw L F nd q (l.map Prod.fst)
  | [], q => rfl
  | x :: l, q => inS_eq ex N Pw L F nd l (q + sgX ex N Pw L F nd x.1)
theorem smS_mono (ex : Int) (N : List P2) (Pw : List Int) (L : List Wl) (F : List Fd) (nd : Nat) {l l' : List Em} (h : l.Sublist l') : ∀ (q q' : Int), q ≤ q' → smS ex N Pw L F nd q l ≤ smS ex N Pw L F nd q' l' := by
  induction h with
  | slnil => intro q q' hq; exact hq
  | cons b _ ih =>
    intro q q' hq
    have := sgX_bd ex N Pw L F nd b
    exact ih q (q' + sgX ex N Pw L F nd b) (by omega)
  | cons_cons b _ ih =>
    intro q q' hq
    exact ih (q + sgX ex N Pw L F nd b) (q' + sgX ex N Pw L F nd b) (by omega)
/-- If another node keeps silent, the interference is no greater. -/
theorem inI_mono (ex : Int) (N : List P2) (Pw : List Int) (L : List Wl) (S : List Sr) (F : List Fd) (E : List Em) (i s : Nat) (e : Em) (nd : Nat) (h : i ≠ s) : inI ex N Pw L S F (E.eraseIdx s) (kAt i s) e nd ≤ inI ex N Pw L S F E i e nd := by
  unfold inI
  rw [inS_eq, inS_eq]
  have h1 := ot_er nd e (E.eraseIdx s) (kAt i s) 0
  have h2 := ot_er nd e E i 0
  rw [Nat.zero_add] at h1 h2
  rw [h1, h2]
  exact smS_mono ex N Pw L F nd ((er_sub E i s h).filter _) _ _ (Int.le_refl _)
theorem rc_mono (ex no th : Int) (N : List P2) (Pw : List Int) (L : List Wl) (S : List Sr) (F : List Fd) (E : List Em) (i s : Nat) (e : Em) (nd : Nat) (h : i ≠ s) (hr : rcB ex no th N Pw L S F E i e nd = true) : rcB ex no th N Pw L S F (E.eraseIdx s) (kAt i s) e nd = true := by
  unfold rcB at hr ⊢
  rw [Bool.and_eq_true] at hr ⊢
  obtain ⟨h1, h2⟩ := hr
  refine ⟨?_, decide_eq_true (Int.le_trans (inI_mono ex N Pw L S F E i s e nd h) (of_decide_eq_true h2))⟩
  unfold frB at h1 ⊢
  have h1 := fidx_none (of_decide_eq_true h1)
  exact decide_eq_true (fidx_no (q := frQ nd e) fun j hj q hq => h1 q (List.mem_of_mem_eraseIdx (List.mem_of_getElem? hq)))
/-- A number is not among others. -/
def outQ (R : List Int) (z : Int) : Bool := !hasI R z
/-- **Who received an emission receives it still.** -/
theorem rcL_out (ex no th : Int) (N : List P2) (Pw : List Int) (L : List Wl) (S : List Sr) (F : List Fd) (E : List Em) (i s : Nat) (e : Em) (n : Nat) (h : i ≠ s) : fidx (outQ (rcL ex no th N Pw L S F (E.eraseIdx s) (kAt i s) e n)) (rcL ex no th N Pw L S F E i e n) = -1 := by
  refine fidx_no fun j hj q hq => ?_
  have hm := List.mem_of_getElem? hq
  unfold rcL at hm
  rw [List.mem_map] at hm
  obtain ⟨nd, hnd, rfl⟩ := hm
  rw [List.mem_filter] at hnd
  have h2 := rc_mono ex no th N Pw L S F E i s e nd h hnd.2
  unfold outQ
  rw [Bool.not_eq_false']
  unfold hasI
  refine decide_eq_true ?_
  unfold rcL
  rw [List.mem_map]
  exact ⟨nd, List.mem_filter.2 ⟨hnd.1, h2⟩, rfl⟩
end Go.Proofs.YtdenooeaiicheaaGreat
namespace Go.Proofs.YtdenooeaiicheaaGreat
open Go Av
set_option maxRecDepth 20000
theorem ac_lawc (R : List Int) (k2 : Nat) (hR : R.length = k2) (hk2 : k2 ≤ 1000) (k0 : Int) (y : Bool) (hy : outQ R k0 = y) : ACalls Tryz.prog 11 [.int .i64 k0, .pointer (some ⟨0, 0, none⟩)] [some ⟨[.slice (some ⟨1, 0, none⟩) k2 k2], false, 1⟩, some ⟨List.map (Value.int .i64) R, false, 1⟩] (.bool y) [none, none] := by
  obtain ⟨x, hx⟩ : ∃ x, hasI R k0 = x := ⟨_, rfl⟩
  have H := ac_containsI R R k2 (by omega) (by rw [← hR, List.take_length]) (by omega) k0 x hx
  unfold outQ at hy
  rw [hx] at hy
  subst hy
  clear hx
  cases x
  all_goals refine acalls_law Tryz.func11 rfl rfl rfl ?_
  repeat' first | refine st ?_ | refine stRW [1] H ?_ | refine run_nil ?_ | refine Jz ?_ | refine Jw ?_ | refine aw_ret ?_ | refine pp_ret ?_
  all_goals first
    | rfl
    | (exfalso; omega)
    | (refine congrArg Value.bool ?_; first | exact decide_eq_true (by omega) | exact decide_eq_false (by omega) | exact (decide_eq_true (by omega)).symm | exact (decide_eq_false (by omega)).symm)
    | (show Value.bool _ = Value.bool _; congr 1; first | exact decide_eq_true (by omega) | exact decide_eq_false (by omega) | exact (decide_eq_true (by omega)).symm | exact (decide_eq_false (by omega)).symm)
    | (simp [retOf]; done)
set_option maxHeartbeats 4000000 in
theorem ac_if_V (L : List Int) (n : Nat) (hn : L.length = n) (hb : n ≤ 9000000000000000000) (R : List Int) (k2 : Nat) (hR : R.length = k2) (hk2 : k2 ≤ 1000) (x : Int) (hx : fidx (outQ R) L = x) : ACalls Tryz.prog 27 [.slice (some ⟨0, 0, none⟩) n n, .func (.func 11) #[] #[.pointer (some ⟨1, 0, none⟩)]] [some ⟨List.map (Value.int .i64) L, false, 1⟩, some ⟨[.slice (some ⟨2, 0, none⟩) k2 k2], false, 1⟩, some ⟨List.map (Value.int .i64) R, false, 1⟩] (.int .i64 x) [none, none, none] := by
  refine acalls_law Tryz.func27 rfl rfl rfl ?_
  repeat' first | refine st ?_ | refine run_nil ?_ | refine Jz ?_ | refine Jw ?_ | refine aw_block ?_
  refine aw_loopg
    (S := fun y : Og => [(0, .slice (some ⟨0, 0, none⟩) n n), (1, .func (.func 11) #[] #[.pointer (some ⟨1, 0, none⟩)]), (7, .int .i64 n), (8, .int .i64 y.i)])
    (B := fun _ : Og => [some ⟨List.map (Value.int .i64) L, false, 1⟩, some ⟨[.slice (some ⟨2, 0, none⟩) k2 k2], false, 1⟩, some ⟨List.map (Value.int .i64) R, false, 1⟩])
    (R := fun y : Og => y.i ≤ n ∧ ∀ (j : Nat), j < y.i → ∀ q, L[j]? = some q → (outQ R) q = false)
    (μ := fun y : Og => n - y.i) ⟨0⟩ (fitsD [0, 1, 2]) ⟨Nat.zero_le _, fun j hj => absurd hj (Nat.not_lt_zero _)⟩ ?_
  rintro ⟨i⟩ ⟨g1, g2⟩
  dsimp only at *
  by_cases hi : i < n
  · obtain ⟨k0, hq⟩ : ∃ q, L[i]? = some q := ⟨_, List.getElem?_eq_getElem (by omega)⟩
    obtain ⟨y, hy⟩ : ∃ y, (outQ R) k0 = y := ⟨_, rfl⟩
    have H := ac_lawc R k2 hR hk2 k0 y hy
    cases y
    · have hst := no_step (q := (outQ R)) g2 hq hy
      clear hx g2
      repeat' first | refine st (h := ok_load_mapE (f := Value.int .i64) i hq rfl rfl rfl (by omega)) ?_ | refine st ?_ | refine stRW [1, 2] H ?_ | refine run_nil ?_ | refine Jz ?_ | refine Jw ?_ | refine aw_block ?_ | refine Jr ?_ | refine Js ?_ | refine Jy ?_
      all_goals first | exact Exists.intro ⟨i + 1⟩ ⟨fitsD [0, 1, 2], ⟨hi, hst⟩, by dsimp only; omega⟩
    · obtain rfl : x = i := by rw [← hx]; exact fidx_at (q := (outQ R)) hq hy g2
      clear hx g2
      repeat' first | refine st (h := ok_load_mapE (f := Value.int .i64) i hq rfl rfl rfl (by omega)) ?_ | refine st ?_ | refine stRW [1, 2] H ?_ | refine run_nil ?_ | refine Jz ?_ | refine Jw ?_ | refine aw_block ?_ | refine Jq ?_ | refine Js ?_ | refine Jy ?_ | refine aw_ret ?_ | refine pp_ret ?_
      all_goals first
        | rfl
        | (exfalso; omega)
        | (refine congrArg Value.bool ?_; first | exact decide_eq_true (by omega) | exact decide_eq_false (by omega) | exact (decide_eq_true (by omega)).symm | exact (decide_eq_false (by omega)).symm)
        | (show Value.bool _ = Value.bool _; congr 1; first | exact decide_eq_true (by omega) | exact decide_eq_false (by omega) | exact (decide_eq_true (by omega)).symm | exact (decide_eq_false (by omega)).symm)
        | (simp [retOf]; done)
  · obtain rfl : i = n := by omega
    obtain rfl : x = -1 := by rw [← hx]; exact fidx_no (by rw [hn]; exact g2)
    repeat' first | refine st ?_ | refine run_nil ?_ | refine Jz ?_ | refine Jw ?_ | refine Jt ?_ | refine aw_exit ?_ | refine aw_ret ?_ | refine pp_ret ?_
    all_goals first
      | rfl
      | (exfalso; omega)
      | (refine congrArg Value.bool ?_; first | exact decide_eq_true (by omega) | exact decide_eq_false (by omega) | exact (decide_eq_true (by omega)).symm | exact (decide_eq_false (by omega)).symm)
      | (show Value.bool _ = Value.bool _; congr 1; first | exact decide_eq_true (by omega) | exact decide_eq_false (by omega) | exact (decide_eq_true (by omega)).symm | exact (decide_eq_false (by omega)).symm)
      | (simp [retOf]; done)
set_option maxHeartbeats 1000000 in
theorem ac_cf_V (L : List Int) (n : Nat) (hn : L.length = n) (hb : n ≤ 9000000000000000000) (R : List Int) (k2 : Nat) (hR : R.length = k2) (hk2 : k2 ≤ 1000) (x : Bool) (hx : decide (fidx (outQ R) L ≠ -1) = x) : ACalls Tryz.prog 10 [.slice (some ⟨0, 0, none⟩) n n, .func (.func 11) #[] #[.pointer (some ⟨1, 0, none⟩)]] [some ⟨List.map (Value.int .i64) L, false, 1⟩, some ⟨[.slice (some ⟨2, 0, none⟩) k2 k2], false, 1⟩, some ⟨List.map (Value.int .i64) R, false, 1⟩] (.bool x) [none, none, none] := by
  obtain ⟨z, hz⟩ : ∃ z, fidx (outQ R) L = z := ⟨_, rfl⟩
  have H := ac_if_V L n hn hb R k2 hR hk2 z hz
  have hge := (fidx_ge (q := (outQ R)) (l := L)).1
  rw [hz] at hx hge
  refine acalls_law Tryz.func10 rfl rfl rfl ?_
  repeat' first | refine st ?_ | refine stRW [0, 1, 2] H ?_ | refine run_nil ?_ | refine Jz ?_ | refine Jw ?_ | refine aw_ret ?_ | refine pp_ret ?_
  all_goals first | (rw [← hx]; exact congrArg Value.bool (decide_eq_decide.2 (by omega)))
end Go.Proofs.YtdenooeaiicheaaGreat
