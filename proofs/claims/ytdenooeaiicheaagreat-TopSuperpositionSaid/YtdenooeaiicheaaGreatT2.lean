/- Iterators: plain. The walls that a path crosses: an iterator. The channels of a list, going round: an iterator. -/
import Derived.Test.YtdenooeaiicheaaGreatVL
import Derived.Test.YtdenooeaiicheaaGreatVS
import Derived.Test.YtdenooeaiicheaaGreatI
import Derived.Test.YtdenooeaiicheaaGreatJ
import Derived.Test.YtdenooeaiicheaaGreatA3
import Derived.Test.YtdenooeaiicheaaGreatA4
set_option linter.unusedVariables false
set_option linter.unusedSimpArgs false
namespace Go.Proofs.YtdenooeaiicheaaGreat
open Go Av
set_option maxRecDepth 20000
theorem sub_nil {σ : Slots} : Sub [] σ := fun t v h => by cases h
theorem sub_cons {σ l : Slots} {k : Nat} {u : Value} (h : Av.look σ k = some u) (hl : Sub l σ) : Sub ((k, u) :: l) σ := fun t v ht => by
  simp only [Av.look] at ht
  cases hb : Nat.beq k t with
  | true =>
    rw [hb] at ht
    have e := Nat.eq_of_beq_eq_true hb
    subst e
    exact h.trans ht
  | false =>
    rw [hb] at ht
    exact hl t v ht
/-- How many of the first k things are wanted. -/
def cntI {α : Type} (q : α → Bool) (L : List α) (k : Nat) : Nat := ((L.take k).filter q).length
theorem take_one {α : Type} {L : List α} {k : Nat} {x : α} (h : L[k]? = some x) : L.take (k + 1) = L.take k ++ [x] := by rw [List.take_add_one, h]; rfl
theorem cnt_no {α : Type} {q : α → Bool} {L : List α} {k : Nat} {x : α} (h : L[k]? = some x) (hq : q x = false) : cntI q L (k + 1) = cntI q L k := by
  unfold cntI
  rw [take_one h, List.filter_append]
  simp [hq]
theorem cnt_yes {α : Type} {q : α → Bool} {L : List α} {k : Nat} {x : α} (h : L[k]? = some x) (hq : q x = true) : cntI q L (k + 1) = cntI q L k + 1 := by
  unfold cntI
  rw [take_one h, List.filter_append]
  simp [hq]
theorem cnt_at {α : Type} {q : α → Bool} {L : List α} {k : Nat} {x : α} (h : L[k]? = some x) (hq : q x = true) : (L.filter q)[cntI q L k]? = some x := by
  have e : L = L.take k ++ x :: L.drop (k + 1) := by
    have hk := (List.getElem?_eq_some_iff.1 h).1
    have : L[k] = x := (List.getElem?_eq_some_iff.1 h).2
    rw [← this, List.getElem_cons_drop hk, List.take_append_drop]
  unfold cntI
  have e2 : L.filter q = (L.take k).filter q ++ x :: (L.drop (k + 1)).filter q := by
    conv => lhs; rw [e]
    rw [List.filter_append, List.filter_cons, if_pos hq]
  rw [e2, List.getElem?_append_right (Nat.le_refl _), Nat.sub_self]
  rfl
theorem cnt_all {α : Type} {q : α → Bool} {L : List α} : cntI q L L.length = (L.filter q).length := by unfold cntI; rw [List.take_length]
theorem fin_take {N c : Nat} (h : c < N) : (List.finRange N).take (c + 1) = (List.finRange N).take c ++ [⟨c, h⟩] := by
  rw [List.take_add_one, List.getElem?_eq_getElem (by rw [List.length_finRange]; exact h)]
  simp
theorem pr_next {μ : Mu} {N : Nat} {encs : Fin N → List Value} {xs : List (ItX μ N encs)} {c : Nat} {h : c < N} {x : ItX μ N encs} (hp : pr xs = (List.finRange N).take c) (hx : x.val.1 = ⟨c, h⟩) : pr (xs ++ [x]) = (List.finRange N).take (c + 1) := by
  rw [pr_snoc, hp, hx, fin_take h]
theorem pr_lt {μ : Mu} {N : Nat} {encs : Fin N → List Value} {xs : List (ItX μ N encs)} {c : Nat} (hp : pr xs = (List.finRange N).take c) (h : c < N) : xs.length < N := by
  rw [← pr_len, hp, List.length_take, List.length_finRange]
  omega
end Go.Proofs.YtdenooeaiicheaaGreat
namespace Go.Proofs.YtdenooeaiicheaaGreat
open Go Av
set_option maxRecDepth 20000
def crW (ax ay bx by' : Int) (w : Wl) : Bool := crB ax ay bx by' w.ax w.ay w.bx w.by'
def wlV (w : Wl) : Value := .agg #[.int .i64 w.ax, .int .i64 w.ay, .int .i64 w.bx, .int .i64 w.by', .int .i64 w.fc]
/-- The walls that are crossed, as they are yielded. -/
def crE (ax ay bx by' : Int) (L : List Wl) (x : Fin (L.filter (crW ax ay bx by')).length) : List Value := [wlV ((L.filter (crW ax ay bx by')).get x)]
def wlOK (w : Wl) : Prop := (0 ≤ w.ax ∧ w.ax ≤ 10000) ∧ (0 ≤ w.ay ∧ w.ay ≤ 10000) ∧ (0 ≤ w.bx ∧ w.bx ≤ 10000) ∧ (0 ≤ w.by' ∧ w.by' ≤ 10000)
set_option maxHeartbeats 4000000 in
theorem it_crossed (ax ay bx by' : Int) (n p w : Nat) (ex no th : Int) (L : List Wl) (hw : L.length = w) (hb : w ≤ 32) (hp : (0 ≤ ax ∧ ax ≤ 10000) ∧ (0 ≤ ay ∧ ay ≤ 10000) ∧ (0 ≤ bx ∧ bx ≤ 10000) ∧ (0 ≤ by' ∧ by' ≤ 10000)) (hL : ∀ x ∈ L, wlOK x) :
    ItG Tryz.prog 137 [.pointer (some ⟨0, 0, none⟩), .pointer (some ⟨1, 0, none⟩), .pointer (some ⟨2, 0, none⟩)] [some ⟨[.slice (some ⟨3, 0, none⟩) n n, .slice (some ⟨4, 0, none⟩) p p, .slice (some ⟨5, 0, none⟩) w w, .int .i64 ex, .int .i64 no, .int .i64 th], true, 1⟩, some ⟨[.int .i64 ax, .int .i64 ay], true, 1⟩, some ⟨[.int .i64 bx, .int .i64 by'], true, 1⟩, none, none, some ⟨L.flatMap wlC, false, 1⟩] (L.filter (crW ax ay bx by')).length (crE ax ay bx by' L) := by
  refine itG_of Tryz.func137 rfl rfl rfl (ro_of rfl) fun μ l J Jx hY => ?_
  show IW _ _ _ _ _ _ _ _ _ [some ⟨[.slice (some ⟨3, 0, none⟩) n n, .slice (some ⟨4, 0, none⟩) p p, .slice (some ⟨5, 0, none⟩) w w, .int .i64 ex, .int .i64 no, .int .i64 th], false, 1⟩, some ⟨[.int .i64 ax, .int .i64 ay], false, 1⟩, some ⟨[.int .i64 bx, .int .i64 by'], false, 1⟩, none, none, some ⟨L.flatMap wlC, false, 1⟩] _ _
  repeat' first | refine And.intro (by rfl) ?_ | refine st ?_ | refine run_nil ?_ | refine iw_seq ?_ | refine iw_list (by kernel_rfl) ?_ | refine iw_block ?_
  refine iw_loop (fun j σ m g xs => ∃ k, j = w - k ∧ k ≤ w ∧ g = true ∧ Fits 6 [(0, .func (.yield l) #[] #[]), (1, .pointer (some ⟨0, 0, none⟩)), (2, .pointer (some ⟨1, 0, none⟩)), (3, .pointer (some ⟨2, 0, none⟩)), (8, .slice (some ⟨5, 0, none⟩) w w), (9, .int .i64 w), (10, .int .i64 k)] [some ⟨[.slice (some ⟨3, 0, none⟩) n n, .slice (some ⟨4, 0, none⟩) p p, .slice (some ⟨5, 0, none⟩) w w, .int .i64 ex, .int .i64 no, .int .i64 th], false, 1⟩, some ⟨[.int .i64 ax, .int .i64 ay], false, 1⟩, some ⟨[.int .i64 bx, .int .i64 by'], false, 1⟩, none, none, some ⟨L.flatMap wlC, false, 1⟩] σ m ∧ pr xs = (List.finRange _).take (cntI (crW ax ay bx by') L k)) (k := w) ⟨0, by omega, by omega, rfl, fitsD [0, 1, 2, 3, 4, 5], rfl⟩ ?_
  rintro j σ m g xs ⟨i, rfl, hk, rfl, hfit, hxs⟩
  refine iw_fits (B := [some ⟨[.slice (some ⟨3, 0, none⟩) n n, .slice (some ⟨4, 0, none⟩) p p, .slice (some ⟨5, 0, none⟩) w w, .int .i64 ex, .int .i64 no, .int .i64 th], false, 1⟩, some ⟨[.int .i64 ax, .int .i64 ay], false, 1⟩, some ⟨[.int .i64 bx, .int .i64 by'], false, 1⟩, none, none, some ⟨L.flatMap wlC, false, 1⟩]) hfit rfl ?_
  by_cases hlt : i < w
  · obtain ⟨⟨ux, uy, vx, vy, fc⟩, hq⟩ : ∃ q, L[i]? = some q := ⟨_, List.getElem?_eq_getElem (by omega)⟩
    have hok := hL _ (List.mem_of_getElem? hq)
    unfold wlOK at hok
    dsimp only at hok
    obtain ⟨y, hy⟩ : ∃ y, crB ax ay bx by' ux uy vx vy = y := ⟨_, rfl⟩
    have H := ac_crosses ax ay bx by' ux uy vx vy fc y (by omega) hy
    cases y
    · skip
      repeat' first | refine iw_listY (id := 3) 7 (by kernel_rfl) ?_ | refine And.intro (by rfl) ?_ | refine st (h := ok_load_rowsE (f := wlC) (cs := [.int .i64 ux, .int .i64 uy, .int .i64 vx, .int .i64 vy, .int .i64 fc]) i (fun _ => rfl) hq rfl rfl rfl rfl (by omega)) ?_ | refine st_call (H) ?_ | refine st ?_ | refine stm ?_ | refine Jb ?_ | refine run_nil ?_ | refine iw_seq ?_ | refine iw_list (by kernel_rfl) ?_ | refine iw_block ?_ | refine iw_cond_tp rfl (by omega) ?_ | refine iw_skip ?_
      refine il_no (by kernel_rfl) (Sub.refl _) ⟨_, _, rfl, rfl, .inl ⟨_, rfl, rfl⟩⟩ ?_
      refine il_no (by kernel_rfl) (Sub.refl _) ⟨_, _, rfl, rfl, .inl ⟨_, rfl, rfl⟩⟩ ?_
      refine il_yes (by kernel_rfl) (by kernel_rfl) (Sub.refl _) (by first | exact rfl | exact ⟨_, _, rfl, rfl, .inl ⟨_, rfl, rfl⟩⟩) (by first | (apply ok_move; rfl) | (apply ok_not; rfl) | (apply ok_pick1; rfl; rfl) | (apply ok_pick; rfl; rfl; rfl)) ?_
      refine il_nil ?_
      repeat' first | refine And.intro (by rfl) ?_ | refine st ?_ | refine run_nil ?_ | refine iw_list (by kernel_rfl) ?_ | refine iw_cond_f rfl ?_ | refine iw_skip ?_
      refine ⟨w - (i + 1), by omega, i + 1, rfl, by omega, rfl, (show Fits 6 _ [some ⟨[.slice (some ⟨3, 0, none⟩) n n, .slice (some ⟨4, 0, none⟩) p p, .slice (some ⟨5, 0, none⟩) w w, .int .i64 ex, .int .i64 no, .int .i64 th], false, 1⟩, some ⟨[.int .i64 ax, .int .i64 ay], false, 1⟩, some ⟨[.int .i64 bx, .int .i64 by'], false, 1⟩, none, none, some ⟨L.flatMap wlC, false, 1⟩] _ _ from fitsD [0, 1, 2, 3, 4, 5]), ?_⟩
      rw [hxs, cnt_no hq hy]
    · have hc := cnt_at (q := crW ax ay bx by') hq hy
      obtain ⟨hcl, hget⟩ := List.getElem?_eq_some_iff.1 hc
      have hnext := cnt_yes (q := crW ax ay bx by') hq hy
      repeat' first | refine iw_listY (id := 3) 7 (by kernel_rfl) ?_ | refine And.intro (by rfl) ?_ | refine st (h := ok_load_rowsE (f := wlC) (cs := [.int .i64 ux, .int .i64 uy, .int .i64 vx, .int .i64 vy, .int .i64 fc]) i (fun _ => rfl) hq rfl rfl rfl rfl (by omega)) ?_ | refine st_call (H) ?_ | refine st ?_ | refine stm ?_ | refine Ja ?_ | refine run_nil ?_ | refine iw_seq ?_ | refine iw_list (by kernel_rfl) ?_ | refine iw_block ?_ | refine iw_cond_tp rfl (by omega) ?_ | refine iw_skip ?_
      refine il_yield rfl rfl rfl ⟨cntI (crW ax ay bx by') L i, hcl⟩ [(0, .func (.yield l) #[] #[]), (1, .pointer (some ⟨0, 0, none⟩)), (2, .pointer (some ⟨1, 0, none⟩)), (3, .pointer (some ⟨2, 0, none⟩)), (8, .slice (some ⟨5, 0, none⟩) w w), (9, .int .i64 w), (10, .int .i64 i), (18, .bool true)] [(18, .bool true)] hY ⟨_, _, rfl, rfl, .inl ⟨_, rfl, rfl⟩⟩ rfl (by show [some _] = [some (wlV (List.get _ _))]; rw [show List.get _ ⟨cntI (crW ax ay bx by') L i, hcl⟩ = _ from hget]; rfl) rfl (pr_lt hxs hcl) (by repeat (first | exact sub_nil | refine sub_cons rfl ?_)) rfl (by repeat (first | exact sub_nil | refine sub_cons rfl ?_)) rfl (fun x hx => ?_) (fun x hx => ?_)
      · refine il_yes (by kernel_rfl) (by kernel_rfl) (Sub.refl _) (by first | exact rfl | exact ⟨_, _, rfl, rfl, .inl ⟨_, rfl, rfl⟩⟩) (by first | (apply ok_move; rfl) | (apply ok_not; rfl) | (apply ok_pick1; rfl; rfl) | (apply ok_pick; rfl; rfl; rfl)) ?_
        refine il_yes (by kernel_rfl) (by kernel_rfl) (Sub.refl _) (by first | exact rfl | exact ⟨_, _, rfl, rfl, .inl ⟨_, rfl, rfl⟩⟩) (by first | (apply ok_move; rfl) | (apply ok_not; rfl) | (apply ok_pick1; rfl; rfl) | (apply ok_pick; rfl; rfl; rfl)) ?_
        refine il_nil ?_
        repeat' first | refine And.intro (by rfl) ?_ | refine st ?_ | refine run_nil ?_ | refine iw_list (by kernel_rfl) ?_ | refine iw_cond_f rfl ?_ | refine iw_skip ?_
        refine ⟨w - (i + 1), by omega, i + 1, rfl, by omega, rfl, (show Fits 6 _ [some ⟨[.slice (some ⟨3, 0, none⟩) n n, .slice (some ⟨4, 0, none⟩) p p, .slice (some ⟨5, 0, none⟩) w w, .int .i64 ex, .int .i64 no, .int .i64 th], false, 1⟩, some ⟨[.int .i64 ax, .int .i64 ay], false, 1⟩, some ⟨[.int .i64 bx, .int .i64 by'], false, 1⟩, none, none, some ⟨L.flatMap wlC, false, 1⟩] _ [some ⟨[.slice (some ⟨3, 0, none⟩) n n, .slice (some ⟨4, 0, none⟩) p p, .slice (some ⟨5, 0, none⟩) w w, .int .i64 ex, .int .i64 no, .int .i64 th], false, 1⟩, some ⟨[.int .i64 ax, .int .i64 ay], false, 1⟩, some ⟨[.int .i64 bx, .int .i64 by'], false, 1⟩, none, none, some ⟨L.flatMap wlC, false, 1⟩] from fitsD [0, 1, 2, 3, 4, 5]), ?_⟩
        rw [hnext]
        exact pr_next hxs hx
      · refine il_yes (by kernel_rfl) (by kernel_rfl) (Sub.refl _) (by first | exact rfl | exact ⟨_, _, rfl, rfl, .inl ⟨_, rfl, rfl⟩⟩) (by first | (apply ok_move; rfl) | (apply ok_not; rfl) | (apply ok_pick1; rfl; rfl) | (apply ok_pick; rfl; rfl; rfl)) ?_
        refine il_yes (by kernel_rfl) (by kernel_rfl) (Sub.refl _) (by first | exact rfl | exact ⟨_, _, rfl, rfl, .inl ⟨_, rfl, rfl⟩⟩) (by first | (apply ok_move; rfl) | (apply ok_not; rfl) | (apply ok_pick1; rfl; rfl) | (apply ok_pick; rfl; rfl; rfl)) ?_
        refine il_nil ?_
        repeat' first | refine iw_cond_t rfl ?_ | refine iw_ret ?_
        exact ⟨.inr rfl, fun h => by cases h⟩
  · obtain rfl : i = w := by omega
    repeat' first | refine And.intro (by rfl) ?_ | refine st ?_ | refine run_nil ?_ | refine iw_seq ?_ | refine iw_list (by kernel_rfl) ?_ | refine iw_cond_fp rfl (by omega) ?_ | refine iw_exit ?_
    refine (show (Exit.normal = Exit.normal ∨ Exit.normal = Exit.ret) ∧ (true = true → pr xs = List.finRange _) from ⟨.inl rfl, fun _ => ?_⟩)
    rw [hxs, ← hw, cnt_all, List.take_of_length_le (by rw [List.length_finRange]; exact Nat.le_refl _)]
end Go.Proofs.YtdenooeaiicheaaGreat
namespace Go.Proofs.YtdenooeaiicheaaGreat
open Go Av
set_option maxRecDepth 20000
def rdI (C : List Int) (t : Int) (k : Nat) : Int := C.getD ((t + k).tmod C.length).toNat 0
def rdE (C : List Int) (t : Int) (x : Fin C.length) : List Value := [.int .i64 (rdI C t x.val)]
set_option maxHeartbeats 4000000 in
theorem it_round (C : List Int) (n : Nat) (t : Int) (hn : C.length = n) (hb : 1 ≤ n ∧ n ≤ 1000000) (ht : 0 ≤ t ∧ t ≤ 1000000000000000) :
    ItG Tryz.prog 65 [.pointer (some ⟨0, 0, none⟩), .pointer (some ⟨1, 0, none⟩)] [some ⟨[.slice (some ⟨2, 0, none⟩) n n], true, 1⟩, some ⟨[.int .i64 t], true, 1⟩, some ⟨List.map (Value.int .i64) C, false, 1⟩] C.length (rdE C t) := by
  refine itG_of Tryz.func65 rfl rfl rfl (ro_of rfl) fun μ l J Jx hY => ?_
  show IW _ _ _ _ _ _ _ _ _ [some ⟨[.slice (some ⟨2, 0, none⟩) n n], false, 1⟩, some ⟨[.int .i64 t], false, 1⟩, some ⟨List.map (Value.int .i64) C, false, 1⟩] _ _
  repeat' first | refine And.intro (by rfl) ?_ | refine st ?_ | refine run_nil ?_ | refine iw_seq ?_ | refine iw_list (by kernel_rfl) ?_ | refine iw_block ?_
  refine iw_loop (fun j σ m g xs => ∃ k, j = n - k ∧ k ≤ n ∧ g = true ∧ Fits 3 [(0, .func (.yield l) #[] #[]), (1, .pointer (some ⟨0, 0, none⟩)), (2, .pointer (some ⟨1, 0, none⟩)), (5, .slice (some ⟨2, 0, none⟩) n n), (6, .int .i64 n), (7, .int .i64 k)] [some ⟨[.slice (some ⟨2, 0, none⟩) n n], false, 1⟩, some ⟨[.int .i64 t], false, 1⟩, some ⟨List.map (Value.int .i64) C, false, 1⟩] σ m ∧ pr xs = (List.finRange _).take k) (k := n) ⟨0, by omega, by omega, rfl, fitsD [0, 1, 2], rfl⟩ ?_
  rintro j σ m g xs ⟨i, rfl, hk, rfl, hfit, hxs⟩
  refine iw_fits (B := [some ⟨[.slice (some ⟨2, 0, none⟩) n n], false, 1⟩, some ⟨[.int .i64 t], false, 1⟩, some ⟨List.map (Value.int .i64) C, false, 1⟩]) hfit rfl ?_
  by_cases hlt : i < n
  · have hm0 : 0 ≤ (t + i).tmod n := Int.tmod_nonneg _ (by omega)
    have hm1 : (t + i).tmod n < n := Int.tmod_lt_of_pos _ (by omega)
    obtain ⟨j, hj⟩ : ∃ j : Nat, (t + i).tmod n = j := ⟨_, (Int.toNat_of_nonneg hm0).symm⟩
    obtain ⟨v, hq⟩ : ∃ v, C[j]? = some v := ⟨_, List.getElem?_eq_getElem (by omega)⟩
    have hv : rdI C t i = v := by unfold rdI; rw [hn, hj, List.getD_eq_getElem?_getD]; show (C[j]?).getD 0 = v; rw [hq]; rfl
    have hcl : i < C.length := by omega
    repeat' first | refine iw_drawnY (id := 3) 10 [0, 0, 0, 0, 12, 0, 32, 124, 254, 510] 10 (by (repeat constructor)) (by kernel_rfl) (by kernel_rfl) (by kernel_rfl) (by kernel_rfl) ?_ | refine And.intro (by rfl) ?_ | refine sdl (h := ok_load_mapE (f := Value.int .i64) j hq rfl rfl rfl (by omega)) ?_ | refine sd (h := ok_remD rfl rfl (by omega) hj) ?_ | refine st ?_ | refine run_nil ?_ | refine sd ?_ | refine sdl ?_ | refine rund_nil ?_ | refine iw_seq ?_ | refine iw_list (by kernel_rfl) ?_ | refine iw_block ?_ | refine iw_cond_tp rfl (by omega) ?_ | refine iw_skip ?_
    refine ia_yield (i := 10) (by kernel_rfl) rfl rfl rfl rfl ⟨i, hcl⟩ [(0, .func (.yield l) #[] #[]), (1, .pointer (some ⟨0, 0, none⟩)), (2, .pointer (some ⟨1, 0, none⟩)), (5, .slice (some ⟨2, 0, none⟩) n n), (6, .int .i64 n), (7, .int .i64 i)] [] hY rfl rfl (by show [some _] = [some (Value.int .i64 (rdI C t i))]; rw [hv]) rfl (pr_lt hxs hcl) (by repeat (first | exact sub_nil | refine sub_cons rfl ?_)) rfl (by repeat (first | exact sub_nil | refine sub_cons rfl ?_)) rfl (fun x hx => ?_) (fun x hx => ?_)
    · refine ia_yes (i := 11) (by kernel_rfl) rfl (by kernel_rfl) (by kernel_rfl) (Sub.refl _) (by first | exact rfl | exact ⟨_, _, rfl, rfl, .inl ⟨_, rfl, rfl⟩⟩) (by first | (apply ok_move; rfl) | (apply ok_not; rfl) | (apply ok_pick1; rfl; rfl) | (apply ok_pick; rfl; rfl; rfl)) ?_
      refine ia_done (by kernel_rfl) ?_
      repeat' first | refine And.intro (by rfl) ?_ | refine st ?_ | refine run_nil ?_ | refine iw_list (by kernel_rfl) ?_ | refine iw_cond_f rfl ?_ | refine iw_skip ?_
      exact ⟨n - (i + 1), by omega, i + 1, rfl, by omega, rfl, (show Fits 3 _ [some ⟨[.slice (some ⟨2, 0, none⟩) n n], false, 1⟩, some ⟨[.int .i64 t], false, 1⟩, some ⟨List.map (Value.int .i64) C, false, 1⟩] _ [some ⟨[.slice (some ⟨2, 0, none⟩) n n], false, 1⟩, some ⟨[.int .i64 t], false, 1⟩, some ⟨List.map (Value.int .i64) C, false, 1⟩] from fitsD [0, 1, 2]), pr_next hxs hx⟩
    · refine ia_yes (i := 11) (by kernel_rfl) rfl (by kernel_rfl) (by kernel_rfl) (Sub.refl _) (by first | exact rfl | exact ⟨_, _, rfl, rfl, .inl ⟨_, rfl, rfl⟩⟩) (by first | (apply ok_move; rfl) | (apply ok_not; rfl) | (apply ok_pick1; rfl; rfl) | (apply ok_pick; rfl; rfl; rfl)) ?_
      refine ia_done (by kernel_rfl) ?_
      repeat' first | refine iw_cond_t rfl ?_ | refine iw_ret ?_
      exact ⟨.inr rfl, fun h => by cases h⟩
  · obtain rfl : i = n := by omega
    repeat' first | refine And.intro (by rfl) ?_ | refine st ?_ | refine run_nil ?_ | refine iw_seq ?_ | refine iw_list (by kernel_rfl) ?_ | refine iw_cond_fp rfl (by omega) ?_ | refine iw_exit ?_
    refine (show (Exit.normal = Exit.normal ∨ Exit.normal = Exit.ret) ∧ (true = true → pr xs = List.finRange _) from ⟨.inl rfl, fun _ => ?_⟩)
    rw [hxs, List.take_of_length_le (by rw [List.length_finRange]; omega)]
end Go.Proofs.YtdenooeaiicheaaGreat
