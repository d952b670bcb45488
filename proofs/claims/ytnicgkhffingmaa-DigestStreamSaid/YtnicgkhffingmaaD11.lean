/- Digest: hashes that take strings in. -/
import Derived.Test.YtnicgkhffingmaaD8
import Derived.Test.YtnicgkhffingmaaVF
set_option linter.unusedVariables false
set_option linter.unusedSimpArgs false
namespace Go.Proofs.Ytnicgkhffingmaa
open Go Av
set_option maxRecDepth 20000
theorem all_u8 (X : List UInt8) : (X.map u8v).all (·.oneCell') = true := List.all_eq_true.2 fun x hx => by
  obtain ⟨b, _, rfl⟩ := List.mem_map.1 hx
  rfl
theorem wd_cong {g h : Nat → Int} : ∀ n, (∀ j, j < n → g j = h j) → wd g n = wd h n
  | 0, _ => rfl
  | n + 1, hh => by
    have ih := wd_cong n fun j hj => hh j (by omega)
    simp only [wd, ih, hh n (by omega)]
theorem ab_prefix (Y d : List UInt8) (t : Int) (C : List Int) : ∀ k, 64 * k ≤ Y.length → ab (Y ++ d) t C k = ab Y t C k
  | 0, _ => rfl
  | k + 1, h => by
    have hw : wd (fun j => (((Y ++ d).getD (64 * k + j) 0).toNat : Int)) 64 = wd (fun j => ((Y.getD (64 * k + j) 0).toNat : Int)) 64 := wd_cong 64 fun j hj => by rw [List.getD_eq_getElem?_getD, List.getD_eq_getElem?_getD, List.getElem?_append_left (by omega)]
    unfold ab
    rw [ab_prefix Y d t C k (by omega), hw]
theorem ab_shift (X : List UInt8) (t : Int) (C : List Int) (k : Nat) : ∀ j, ab X t C (k + j) = ab (X.drop (64 * k)) (t + 64 * k) (ab X t C k) j
  | 0 => rfl
  | j + 1 => by
    have e : (t + 64 * (((k + j : Nat) : Int) + 1)) = t + 64 * (k : Int) + 64 * ((j : Int) + 1) := by omega
    have hw : wd (fun i => ((X.getD (64 * (k + j) + i) 0).toNat : Int)) 64 = wd (fun i => (((X.drop (64 * k)).getD (64 * j + i) 0).toNat : Int)) 64 := wd_cong 64 fun i hi => by
      rw [List.getD_eq_getElem?_getD, List.getD_eq_getElem?_getD, List.getElem?_drop, show 64 * (k + j) + i = 64 * k + (64 * j + i) by omega]
    rw [← Nat.add_assoc, ab, ab_shift X t C k j, e, hw]
    conv => rhs; rw [ab]
def kk (Y : List UInt8) : Nat := (Y.length - 1) / 64
/-- The chain behind bytes that were taken in. -/
def chn (Y : List UInt8) : List Int := ab Y 0 (ivk 0) (kk Y)
theorem chn_len (Y) : (chn Y).length = 8 := by rw [chn, ab_len]; rfl
theorem chn_app (Y d X : List UInt8) (hX : X = Y.drop (64 * kk Y) ++ d) : kk (Y ++ d) = kk Y + (X.length - 1) / 64 ∧ chn (Y ++ d) = ab X (64 * (kk Y : Int)) (chn Y) ((X.length - 1) / 64) ∧ (Y ++ d).drop (64 * kk Y) = X := by
  have hk : 64 * kk Y ≤ Y.length := by unfold kk; omega
  have hd : (Y ++ d).drop (64 * kk Y) = X := by rw [hX, List.drop_append_of_le_length hk]
  have hl : X.length = Y.length - 64 * kk Y + d.length := by rw [hX]; simp
  have h1 : kk (Y ++ d) = kk Y + (X.length - 1) / 64 := by
    rw [hl]
    unfold kk
    rw [List.length_append]
    omega
  refine ⟨h1, ?_, hd⟩
  unfold chn
  rw [h1, ab_shift, hd, ab_prefix _ _ _ _ _ hk, Int.zero_add]
theorem ac_takeY (q : Int) (d : ByteArray) (Y Y' L X : List UInt8) (o n n' o' : Nat) (t t' p0 p1 p2 p3 p4 p5 p6 p7 : Int) (C' : List Int) (hC : chn Y = [p0, p1, p2, p3, p4, p5, p6, p7]) (hn : n = Y.length - 64 * kk Y) (ht : t = 64 * (kk Y : Int)) (hY : Y' = Y ++ d.data.toList) (hC' : chn Y' = C')
    (hn' : n' = Y'.length - 64 * kk Y') (ht' : t' = 64 * (kk Y' : Int)) (hL : o + n ≤ L.length) (hLY : (L.drop o).take n = Y.drop (64 * kk Y)) (hX : X = Y.drop (64 * kk Y) ++ d.data.toList) (ho' : o' = 64 * ((X.length - 1) / 64)) (hlen : Y'.length ≤ 1048576) :
    ACalls Try.prog 14 [.pointer (some ⟨0, 0, none⟩), .string d] [some ⟨[.int .u32 p0, .int .u32 p1, .int .u32 p2, .int .u32 p3, .int .u32 p4, .int .u32 p5, .int .u32 p6, .int .u32 p7, .slice (some ⟨1, o, none⟩) n n, .int .u64 t, .int .i64 q], true, 1⟩, some ⟨L.map u8v, true, 1⟩] (.tuple #[])
      [some ⟨[.int .u32 (C'.getD 0 0), .int .u32 (C'.getD 1 0), .int .u32 (C'.getD 2 0), .int .u32 (C'.getD 3 0), .int .u32 (C'.getD 4 0), .int .u32 (C'.getD 5 0), .int .u32 (C'.getD 6 0), .int .u32 (C'.getD 7 0), .slice (some ⟨2, o', none⟩) n' n', .int .u64 t', .int .i64 q], true, 1⟩, none, some ⟨X.map u8v, true, 1⟩] ∧ o' + n' ≤ X.length ∧ (X.drop o').take n' = Y'.drop (64 * kk Y') := by
  obtain ⟨e1, e2, e3⟩ := chn_app Y d.data.toList X hX
  have hk : 64 * kk Y ≤ Y.length := by unfold kk; omega
  have hXl : X.length = Y.length - 64 * kk Y + d.data.toList.length := by rw [hX]; simp
  have hYl : Y'.length = Y.length + d.data.toList.length := by rw [hY]; simp
  rw [← hY] at e1 e2 e3
  have hk' : 64 * kk Y' ≤ Y'.length := by unfold kk; omega
  have H := ac_takeBn p0 p1 p2 p3 p4 p5 p6 p7 t q d L o n hL X (by rw [hLY]; exact hX) (by omega) (by omega) (by omega) ((X.length - 1) / 64) rfl
  rw [← hC, ht, ← e2, hC', ← ho', show X.length - o' = n' by omega, show 64 * (kk Y : Int) + 64 * (((X.length - 1) / 64 : Nat) : Int) = t' by omega] at H
  refine ⟨by rw [ht]; exact H, by omega, ?_⟩
  rw [List.take_of_length_le (by rw [List.length_drop]; omega), ← e3, List.drop_drop, e1]
  congr 1
  omega
set_option maxHeartbeats 1000000 in
theorem ac_hsum (q : Int) (Y L : List UInt8) (o n : Nat) (t p0 p1 p2 p3 p4 p5 p6 p7 : Int) (hC : chn Y = [p0, p1, p2, p3, p4, p5, p6, p7]) (hn : n = Y.length - 64 * kk Y) (ht : t = 64 * (kk Y : Int)) (hL : o + n ≤ L.length) (hLY : (L.drop o).take n = Y.drop (64 * kk Y)) (hlen : Y.length ≤ 1048576) :
    ACalls Try.prog 7 [.pointer (some ⟨0, 0, none⟩)] [some ⟨[.int .u32 p0, .int .u32 p1, .int .u32 p2, .int .u32 p3, .int .u32 p4, .int .u32 p5, .int .u32 p6, .int .u32 p7, .slice (some ⟨1, o, none⟩) n n, .int .u64 t, .int .i64 q], false, 1⟩, some ⟨L.map u8v, false, 1⟩] (.string (dig 0 Y)) [none, none] := by
  have hk : 64 * kk Y ≤ Y.length ∧ Y.length - 64 * kk Y ≤ 64 := by unfold kk; omega
  obtain ⟨C, hCC⟩ : ∃ C, cmp [p0, p1, p2, p3, p4, p5, p6, p7] (wd (fun j => (L.getD (o + j) 0).toNat) n) (t + n) true = C := ⟨_, rfl⟩
  have HF := ac_sum1 p0 p1 p2 p3 p4 p5 p6 p7 t L n o (by omega) (by omega) hL (by omega) C hCC
  have hdg : dig 0 Y = ⟨(outB C 8).toArray⟩ := by
    rw [← hCC, ← hC, ht]
    show ByteArray.mk (outB (cmp (chn Y) (wd (fun j => ((Y.getD (64 * kk Y + j) 0).toNat : Int)) (Y.length - 64 * kk Y)) Y.length true) 8).toArray = _
    rw [← hn, show 64 * (kk Y : Int) + (n : Int) = Y.length by omega]
    have : wd (fun j => ((Y.getD (64 * kk Y + j) 0).toNat : Int)) n = wd (fun j => (L.getD (o + j) 0).toNat) n := wd_cong n fun j hj => by
      have h0 := congrArg (fun l : List UInt8 => l[j]?) hLY
      simp only [List.getElem?_take, if_pos hj, List.getElem?_drop] at h0
      rw [List.getD_eq_getElem?_getD, List.getD_eq_getElem?_getD, h0]
    rw [this]
  rw [hdg]
  refine acalls_law Try.func7 rfl rfl rfl ?_
  repeat' first
    | refine st ?_
    | refine stR [1] HF ?_
    | refine sdR [1] HF ?_
    | refine stm ?_
    | refine run_want rfl rfl ?_
    | refine run_unwant rfl rfl ?_
    | refine run_undef rfl rfl ?_
    | refine run_guard1t rfl rfl (by omega) ?_
    | refine run_guard1f rfl rfl (by omega) ?_
    | refine run_guard0t rfl rfl (by omega) ?_
    | refine run_guard0f rfl rfl (by omega) ?_
    | refine run_guard1 rfl rfl (fun h1 => ?_) (fun h1 => ?_)
    | refine run_guard0 rfl rfl (fun h1 => ?_) (fun h1 => ?_)
    | refine run_guard rfl rfl (fun h1 => ?_) (fun h1 => ?_)
    | refine run_nil ?_
    | refine aw_seq ?_
    | refine aw_region (by kernel_rfl) (Nat.le_of_ble_eq_true rfl) ?_
    | refine aw_block ?_
    | refine aw_cond_t rfl ?_
    | refine aw_cond_f rfl ?_
    | refine aw_cond_tp rfl (by omega) ?_
    | refine aw_cond_fp rfl (by omega) ?_
    | refine aw_cond1 rfl (fun h1 => ?_) (fun h1 => ?_)
    | refine aw_cond rfl (fun h1 => ?_) (fun h1 => ?_)
    | refine aw_skip ?_
    | refine aw_exit ?_
    | refine aw_ret ?_
    | refine pp_ret ?_
    | refine pp_normal ?_
  rfl
set_option maxHeartbeats 1000000 in
theorem ac_New : ACalls Try.prog 5 [] [] (.pointer (some ⟨0, 0, none⟩)) [some ⟨[.int .u32 (iv0 0), .int .u32 3144134277, .int .u32 1013904242, .int .u32 2773480762, .int .u32 1359893119, .int .u32 2600822924, .int .u32 528734635, .int .u32 1541459225, .slice (some ⟨1, 0, none⟩) 0 0, .int .u64 0, .int .i64 0], true, 1⟩, some ⟨[], true, 1⟩] := by
  have HS := ac_start0 ⟨#[]⟩ 0 rfl rfl
  refine acalls_of_aw Try.func5 rfl rfl ?_
  repeat' first
    | refine st ?_
    | refine stM [] HS ?_
    | refine stm ?_
    | refine run_want rfl rfl ?_
    | refine run_unwant rfl rfl ?_
    | refine run_undef rfl rfl ?_
    | refine run_guard1t rfl rfl (by omega) ?_
    | refine run_guard1f rfl rfl (by omega) ?_
    | refine run_guard0t rfl rfl (by omega) ?_
    | refine run_guard0f rfl rfl (by omega) ?_
    | refine run_guard1 rfl rfl (fun h1 => ?_) (fun h1 => ?_)
    | refine run_guard0 rfl rfl (fun h1 => ?_) (fun h1 => ?_)
    | refine run_guard rfl rfl (fun h1 => ?_) (fun h1 => ?_)
    | refine run_nil ?_
    | refine aw_seq ?_
    | refine aw_region (by kernel_rfl) (Nat.le_of_ble_eq_true rfl) ?_
    | refine aw_block ?_
    | refine aw_cond_t rfl ?_
    | refine aw_cond_f rfl ?_
    | refine aw_cond_tp rfl (by omega) ?_
    | refine aw_cond_fp rfl (by omega) ?_
    | refine aw_cond1 rfl (fun h1 => ?_) (fun h1 => ?_)
    | refine aw_cond rfl (fun h1 => ?_) (fun h1 => ?_)
    | refine aw_skip ?_
    | refine aw_exit ?_
    | refine aw_ret ?_
    | refine pp_ret ?_
    | refine pp_normal ?_
  exact pm_ret _ (renumA [1, 0]) rfl
/-- What parts are in all. -/
def flat (P : List ByteArray) : List UInt8 := P.flatMap (·.data.toList)
def wrS (Q : List ByteArray) (Y L : List UInt8) (o : Nat) : Nat → List UInt8 × List UInt8 × Nat
  | 0 => (Y, L, o)
  | i + 1 =>
    let s := wrS Q Y L o i
    let X := s.1.drop (64 * kk s.1) ++ (Q.getD i .empty).data.toList
    (s.1 ++ (Q.getD i .empty).data.toList, X, 64 * ((X.length - 1) / 64))
theorem wr_inv (Q : List ByteArray) (Y L : List UInt8) (o : Nat) (hL : o + (Y.length - 64 * kk Y) ≤ L.length) (hLY : (L.drop o).take (Y.length - 64 * kk Y) = Y.drop (64 * kk Y)) : ∀ i, i ≤ Q.length →
    (wrS Q Y L o i).1 = Y ++ flat (Q.take i) ∧ (wrS Q Y L o i).2.2 + ((wrS Q Y L o i).1.length - 64 * kk (wrS Q Y L o i).1) ≤ (wrS Q Y L o i).2.1.length ∧
    ((wrS Q Y L o i).2.1.drop (wrS Q Y L o i).2.2).take ((wrS Q Y L o i).1.length - 64 * kk (wrS Q Y L o i).1) = (wrS Q Y L o i).1.drop (64 * kk (wrS Q Y L o i).1)
  | 0, _ => ⟨by simp [wrS, flat], hL, hLY⟩
  | i + 1, h => by
    obtain ⟨h1, h2, h3⟩ := wr_inv Q Y L o hL hLY i (by omega)
    generalize hs : wrS Q Y L o i = s at h1 h2 h3
    obtain ⟨y, l, p⟩ := s
    obtain ⟨d, hd⟩ : ∃ d, (Q.getD i .empty).data.toList = d := ⟨_, rfl⟩
    have e : wrS Q Y L o (i + 1) = (y ++ d, y.drop (64 * kk y) ++ d, 64 * (((y.drop (64 * kk y) ++ d).length - 1) / 64)) := by simp only [wrS, hs, hd]
    rw [e]
    dsimp only at *
    obtain ⟨e1, e2, e3⟩ := chn_app y d _ rfl
    have hk : 64 * kk y ≤ y.length := by unfold kk; omega
    have hk' : 64 * kk (y ++ d) ≤ (y ++ d).length := by unfold kk; omega
    have hXl : (y.drop (64 * kk y) ++ d).length = y.length - 64 * kk y + d.length := by simp
    have hyl : (y ++ d).length = y.length + d.length := by simp
    refine ⟨?_, by omega, ?_⟩
    · have : Q.take (i + 1) = Q.take i ++ [Q.getD i .empty] := by
        rw [List.take_add_one, List.getD_eq_getElem?_getD, List.getElem?_eq_getElem (show i < Q.length by omega)]
        rfl
      rw [this, flat, List.flatMap_append, ← flat, h1, List.append_assoc]
      simp only [flat, List.flatMap_cons, List.flatMap_nil, List.append_nil, hd]
    · rw [List.take_of_length_le (by rw [List.length_drop]; omega)]
      rw [e1, Nat.mul_add, ← List.drop_drop, e3]
structure Wgs where
  i : Nat
  Y : List UInt8
  L : List UInt8
  o : Nat
  n : Nat
  t : Int
  q : Int
  c0 : Int
  c1 : Int
  c2 : Int
  c3 : Int
  c4 : Int
  c5 : Int
  c6 : Int
  c7 : Int
set_option maxHeartbeats 4000000 in
theorem ac_Write (q : Int) (Y Y' L : List UInt8) (o n : Nat) (t p0 p1 p2 p3 p4 p5 p6 p7 : Int) (P : List ByteArray) (po np : Nat) (hC : chn Y = [p0, p1, p2, p3, p4, p5, p6, p7]) (hn : n = Y.length - 64 * kk Y) (ht : t = 64 * (kk Y : Int)) (hL : o + n ≤ L.length) (hLY : (L.drop o).take n = Y.drop (64 * kk Y))
    (hP : po + np ≤ P.length) (hY : Y' = Y ++ flat ((P.drop po).take np)) (hlen : Y'.length ≤ 1048576) (hq : q = Y.length) (hnp : np ≤ 1048576) :
    ∃ (L' : List UInt8) (o' n' : Nat) (t' : Int) (C' : List Int), chn Y' = C' ∧ n' = Y'.length - 64 * kk Y' ∧ t' = 64 * (kk Y' : Int) ∧ o' + n' ≤ L'.length ∧ (L'.drop o').take n' = Y'.drop (64 * kk Y') ∧
    ACalls Try.prog 6 [.pointer (some ⟨0, 0, none⟩), .slice (some ⟨2, po, none⟩) np np] [some ⟨[.int .u32 p0, .int .u32 p1, .int .u32 p2, .int .u32 p3, .int .u32 p4, .int .u32 p5, .int .u32 p6, .int .u32 p7, .slice (some ⟨1, o, none⟩) n n, .int .u64 t, .int .i64 q], true, 1⟩, some ⟨L.map u8v, true, 1⟩, some ⟨P.map Value.string, false, 1⟩] (.int .i64 Y'.length)
      [some ⟨[.int .u32 (C'.getD 0 0), .int .u32 (C'.getD 1 0), .int .u32 (C'.getD 2 0), .int .u32 (C'.getD 3 0), .int .u32 (C'.getD 4 0), .int .u32 (C'.getD 5 0), .int .u32 (C'.getD 6 0), .int .u32 (C'.getD 7 0), .slice (some ⟨3, o', none⟩) n' n', .int .u64 t', .int .i64 Y'.length], true, 1⟩, none, none, some ⟨L'.map u8v, true, 1⟩] := by
  obtain ⟨Q, hQ⟩ : ∃ Q, (P.drop po).take np = Q := ⟨_, rfl⟩
  have hQl : Q.length = np := by rw [← hQ, List.length_take, List.length_drop]; omega
  have hQg : ∀ i, i < np → P.getD (po + i) .empty = Q.getD i .empty := fun i hi => by
    rw [← hQ, List.getD_eq_getElem?_getD, List.getD_eq_getElem?_getD, List.getElem?_take, if_pos hi, List.getElem?_drop]
  rw [hQ] at hY
  have inv := wr_inv Q Y L o (hn ▸ hL) (hn ▸ hLY)
  rw [hQl] at inv
  have hle : ∀ i, i ≤ np → (Y ++ flat (Q.take i)).length ≤ Y'.length := fun i hi => by
    have : flat Q = flat (Q.take i) ++ flat (Q.drop i) := by rw [flat, flat, flat, ← List.flatMap_append, List.take_append_drop]
    rw [hY, this, List.length_append, List.length_append, List.length_append]
    omega
  obtain ⟨i1, i2, i3⟩ := inv np (Nat.le_refl _)
  rw [List.take_of_length_le (Nat.le_of_eq hQl), ← hY] at i1
  obtain ⟨C', hC'⟩ : ∃ C', chn Y' = C' := ⟨_, rfl⟩
  refine ⟨(wrS Q Y L o np).2.1, (wrS Q Y L o np).2.2, Y'.length - 64 * kk Y', 64 * (kk Y' : Int), C', hC', rfl, rfl, by rw [i1] at i2; exact i2, by rw [i1] at i3; exact i3, ?_⟩
  refine acalls_of_aw Try.func6 rfl rfl ?_
  repeat' first
    | refine st ?_
    | refine stm ?_
    | refine run_want rfl rfl ?_
    | refine run_unwant rfl rfl ?_
    | refine run_undef rfl rfl ?_
    | refine run_guard1t rfl rfl (by omega) ?_
    | refine run_guard1f rfl rfl (by omega) ?_
    | refine run_guard0t rfl rfl (by omega) ?_
    | refine run_guard0f rfl rfl (by omega) ?_
    | refine run_guard1 rfl rfl (fun h1 => ?_) (fun h1 => ?_)
    | refine run_guard0 rfl rfl (fun h1 => ?_) (fun h1 => ?_)
    | refine run_guard rfl rfl (fun h1 => ?_) (fun h1 => ?_)
    | refine run_nil ?_
    | refine aw_seq ?_
    | refine aw_region (by kernel_rfl) (Nat.le_of_ble_eq_true rfl) ?_
    | refine aw_block ?_
    | refine aw_cond_t rfl ?_
    | refine aw_cond_f rfl ?_
    | refine aw_cond_tp rfl (by omega) ?_
    | refine aw_cond_fp rfl (by omega) ?_
    | refine aw_cond1 rfl (fun h1 => ?_) (fun h1 => ?_)
    | refine aw_cond rfl (fun h1 => ?_) (fun h1 => ?_)
    | refine aw_skip ?_
    | refine aw_exit ?_
    | refine aw_ret ?_
    | refine pp_ret ?_
    | refine pp_normal ?_
  refine aw_loopg
    (S := fun x : Wgs => [(0, .pointer (some ⟨0, 0, none⟩)), (7, .slice (some ⟨2, po, none⟩) np np), (8, .int .i64 np), (9, .int .i64 x.i)])
    (B := fun x : Wgs => [some ⟨[.int .u32 x.c0, .int .u32 x.c1, .int .u32 x.c2, .int .u32 x.c3, .int .u32 x.c4, .int .u32 x.c5, .int .u32 x.c6, .int .u32 x.c7, .slice (some ⟨3, x.o, none⟩) x.n x.n, .int .u64 x.t, .int .i64 x.q], true, 1⟩, none, some ⟨P.map Value.string, false, 1⟩, some ⟨x.L.map u8v, true, 1⟩])
    (R := fun x : Wgs => x.i ≤ np ∧ wrS Q Y L o x.i = (x.Y, x.L, x.o) ∧ chn x.Y = [x.c0, x.c1, x.c2, x.c3, x.c4, x.c5, x.c6, x.c7] ∧ x.n = x.Y.length - 64 * kk x.Y ∧ x.t = 64 * (kk x.Y : Int) ∧ x.q = x.Y.length)
    (μ := fun x : Wgs => np - x.i) ⟨0, Y, L, o, n, t, q, p0, p1, p2, p3, p4, p5, p6, p7⟩ (fitsD [0, 1, 2, 1]) ⟨Nat.zero_le _, rfl, hC, hn, ht, hq⟩ ?_
  rintro ⟨i, y, l, o1, n1, t1, q1, v0, v1, v2, v3, v4, v5, v6, v7⟩ ⟨g1, g2, g3, g4, g5, g6⟩
  dsimp only at *
  obtain ⟨j1, j2, j3⟩ := inv i g1
  rw [g2] at j1 j2 j3
  dsimp only at j1 j2 j3
  by_cases hi : i < np
  · obtain ⟨d, hd⟩ : ∃ d, P.getD (po + i) .empty = d := ⟨_, rfl⟩
    have hd' := hQg i hi
    rw [hd] at hd'
    obtain ⟨X, hX⟩ : ∃ X, y.drop (64 * kk y) ++ d.data.toList = X := ⟨_, rfl⟩
    obtain ⟨y', hy'⟩ : ∃ y', y ++ d.data.toList = y' := ⟨_, rfl⟩
    obtain ⟨k1, k2, k3⟩ := inv (i + 1) hi
    have e : wrS Q Y L o (i + 1) = (y', X, 64 * ((X.length - 1) / 64)) := by simp only [wrS, g2, ← hd', hX, hy']
    rw [e] at k1 k2 k3
    dsimp only at k1 k2 k3
    obtain ⟨c', hc'⟩ : ∃ c', chn y' = c' := ⟨_, rfl⟩
    have hcl : c'.length = 8 := by rw [← hc', chn_len]
    obtain ⟨n', hn'⟩ : ∃ n', n' = y'.length - 64 * kk y' := ⟨_, rfl⟩
    obtain ⟨t', ht'⟩ : ∃ t', t' = 64 * (kk y' : Int) := ⟨_, rfl⟩
    obtain ⟨o', ho'⟩ : ∃ o', o' = 64 * ((X.length - 1) / 64) := ⟨_, rfl⟩
    have hlY' : y'.length ≤ 1048576 := by
      have := hle (i + 1) hi
      rw [← k1] at this
      omega
    have hyl : y'.length = y.length + d.size := by rw [← hy', List.length_append]; rfl
    obtain ⟨H, _, _⟩ := ac_takeY q1 d y y' l X o1 n1 n' o' t1 t' v0 v1 v2 v3 v4 v5 v6 v7 c' g3 g4 g5 hy'.symm hc' hn' ht' (g4 ▸ j2) (g4 ▸ j3) hX.symm ho' hlY'
    repeat' first
      | refine st (h := (show P.getD (po + i) default = d from hd) ▸ ok_load_map (f := Value.string) (l := P) rfl rfl rfl (j := po + i) (by simp) (by omega)) ?_
      | refine st ?_
      | refine stMW [0, 3] H ?_
      | refine stm ?_
      | refine run_want rfl rfl ?_
      | refine run_unwant rfl rfl ?_
      | refine run_undef rfl rfl ?_
      | refine run_guard1t rfl rfl (by omega) ?_
      | refine run_guard1f rfl rfl (by omega) ?_
      | refine run_guard0t rfl rfl (by omega) ?_
      | refine run_guard0f rfl rfl (by omega) ?_
      | refine run_guard1 rfl rfl (fun h1 => ?_) (fun h1 => ?_)
      | refine run_guard0 rfl rfl (fun h1 => ?_) (fun h1 => ?_)
      | refine run_guard rfl rfl (fun h1 => ?_) (fun h1 => ?_)
      | refine run_nil ?_
      | refine aw_seq ?_
      | refine aw_region (by kernel_rfl) (Nat.le_of_ble_eq_true rfl) ?_
      | refine aw_block ?_
      | refine aw_cond_t rfl ?_
      | refine aw_cond_f rfl ?_
      | refine aw_cond_tp rfl (by omega) ?_
      | refine aw_cond_fp rfl (by omega) ?_
      | refine aw_cond1 rfl (fun h1 => ?_) (fun h1 => ?_)
      | refine aw_cond rfl (fun h1 => ?_) (fun h1 => ?_)
      | refine aw_skip ?_
      | refine aw_exit ?_
      | refine aw_ret ?_
      | refine pp_ret ?_
      | refine pp_normal ?_
    refine Exists.intro ⟨i + 1, y', X, o', n', t', _, _, _, _, _, _, _, _, _⟩ ⟨fitsD [0, 1, 2, 4], ⟨hi, by dsimp only; rw [e, ho'], ?_, hn', ht', by dsimp only; omega⟩, by dsimp only; omega⟩
    exact hc'.trans (list8_eq hcl).symm
  · obtain rfl : i = np := by omega
    rw [g2] at i1
    dsimp only at i1
    rw [g2, ← hC', ← i1, g3, ← g4, ← g5]
    dsimp only
    repeat' first
      | refine st ?_
      | refine stm ?_
      | refine run_want rfl rfl ?_
      | refine run_unwant rfl rfl ?_
      | refine run_undef rfl rfl ?_
      | refine run_guard1t rfl rfl (by omega) ?_
      | refine run_guard1f rfl rfl (by omega) ?_
      | refine run_guard0t rfl rfl (by omega) ?_
      | refine run_guard0f rfl rfl (by omega) ?_
      | refine run_guard1 rfl rfl (fun h1 => ?_) (fun h1 => ?_)
      | refine run_guard0 rfl rfl (fun h1 => ?_) (fun h1 => ?_)
      | refine run_guard rfl rfl (fun h1 => ?_) (fun h1 => ?_)
      | refine run_nil ?_
      | refine aw_seq ?_
      | refine aw_region (by kernel_rfl) (Nat.le_of_ble_eq_true rfl) ?_
      | refine aw_block ?_
      | refine aw_cond_t rfl ?_
      | refine aw_cond_f rfl ?_
      | refine aw_cond_tp rfl (by omega) ?_
      | refine aw_cond_fp rfl (by omega) ?_
      | refine aw_cond1 rfl (fun h1 => ?_) (fun h1 => ?_)
      | refine aw_cond rfl (fun h1 => ?_) (fun h1 => ?_)
      | refine aw_skip ?_
      | refine aw_exit ?_
      | refine aw_ret ?_
      | refine pp_ret ?_
      | refine pp_normal ?_
    rw [g6]
    exact pm_ret _ (renumD [0, 1, 2, 3]) rfl
end Go.Proofs.Ytnicgkhffingmaa
