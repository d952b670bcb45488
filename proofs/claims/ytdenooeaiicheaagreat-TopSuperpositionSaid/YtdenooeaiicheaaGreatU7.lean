/- Spectrum: External. -/
import Derived.Test.YtdenooeaiicheaaGreatVL
import Derived.Test.YtdenooeaiicheaaGreatU6
import Derived.Test.YtdenooeaiicheaaGreatU4
set_option linter.unusedVariables false
set_option linter.unusedSimpArgs false
namespace Go.Proofs.YtdenooeaiicheaaGreat
open Go Av
set_option maxRecDepth 20000
theorem sc_bd (p f : Int) : 0 ≤ sclI p f ∧ sclI p f ≤ 68719476736 := by
  unfold sclI
  split
  · rename_i h
    obtain ⟨h1, h2, h3⟩ := h
    unfold powB at h1
    have h1 := of_decide_eq_true h1
    refine ⟨Int.ediv_nonneg (Int.mul_nonneg h1.1 h2) (by decide), ?_⟩
    have : p * f ≤ p * 1000 := Int.mul_le_mul_of_nonneg_left h3 h1.1
    omega
  · omega
theorem tdiv_bd {P d : Int} (h : 0 ≤ P) (hd : 100 ≤ d) : 0 ≤ (P * 100).tdiv d ∧ (P * 100).tdiv d ≤ P := by
  rw [Int.tdiv_eq_ediv_of_nonneg (by omega)]
  refine ⟨Int.ediv_nonneg (by omega) (by omega), ?_⟩
  apply Int.ediv_le_of_le_mul (by omega)
  exact Int.mul_le_mul_of_nonneg_left hd h
theorem at_bd (ex ax ay P bx by' : Int) (L : List Wl) (hP : 0 ≤ P ∧ P ≤ 68719476736) : 0 ≤ atI ex ax ay P bx by' L ∧ atI ex ax ay P bx by' L ≤ 68719476736 := by
  have hq : 0 ≤ atQ ex ax ay P bx by' ∧ atQ ex ax ay P bx by' ≤ 68719476736 := by
    have h1 := tdiv_bd (P := P) (d := max (sqI ax ay bx by') 100) hP.1 (by omega)
    have h2 := tdiv_bd (P := (P * 100).tdiv (max (sqI ax ay bx by') 100)) (d := max (sqI ax ay bx by') 100) h1.1 (by omega)
    unfold atQ
    split <;> omega
  unfold atI
  generalize L.filter (crW ax ay bx by') = l
  generalize atQ ex ax ay P bx by' = q at hq
  induction l generalizing q with
  | nil => exact hq
  | cons w l ih => exact ih _ (sc_bd _ _)
theorem sp_ok {S : List Sr} {F : List Fd} (h : spB S F = true) : (∀ s ∈ S, srB s = true) ∧ timOK S ∧ (∀ s ∈ S, (0 ≤ s.x ∧ s.x ≤ 10000) ∧ (0 ≤ s.y ∧ s.y ≤ 10000) ∧ 0 ≤ s.pw ∧ s.pw ≤ 68719476736) ∧ F.length ≤ 64 := by
  unfold spB at h
  simp only [Bool.and_eq_true, Bool.not_eq_true', decide_eq_true_eq, decide_eq_false_iff_not, Decidable.not_not] at h
  obtain ⟨h1, h2, h3⟩ := h
  have hall : ∀ s ∈ S, srB s = true := fun s hs => by
    have := fidx_none h2 s hs
    unfold badS at this
    simpa using this
  have hsp : ∀ s ∈ S, sr1 s.x s.y s.pw = true ∧ sr3 s.per s.fr s.to' = true := fun s hs => by
    have := hall s hs
    unfold srB at this
    simp only [Bool.and_eq_true] at this
    exact ⟨this.1, this.2.2⟩
  exact ⟨hall, fun s hs => of_decide_eq_true (hsp s hs).2, fun s hs => of_decide_eq_true (hsp s hs).1, h1.2⟩
/-- What transmitters send to a point, added up. -/
def exS (ex : Int) (L : List Wl) (nx ny : Int) (l : List (Sr × Nat)) : Int := l.foldl (fun s p => s + atI ex p.1.x p.1.y p.1.pw nx ny L) 0
theorem exS_snoc (ex : Int) (L : List Wl) (nx ny : Int) (l : List (Sr × Nat)) (p : Sr × Nat) : exS ex L nx ny (l ++ [p]) = exS ex L nx ny l + atI ex p.1.x p.1.y p.1.pw nx ny L := by
  unfold exS
  rw [List.foldl_append]
  rfl
theorem exS_bd {ex : Int} {L : List Wl} {nx ny : Int} : ∀ (k : Nat) (l : List (Sr × Nat)), l.length = k → (∀ p ∈ l, 0 ≤ p.1.pw ∧ p.1.pw ≤ 68719476736) → 0 ≤ exS ex L nx ny l ∧ exS ex L nx ny l ≤ 68719476736 * k
  | 0, l, hl, _ => by
    obtain rfl := List.eq_nil_of_length_eq_zero hl
    exact ⟨Int.le_refl _, Int.le_refl _⟩
  | k + 1, l, hl, h => by
    obtain ⟨l', p, rfl⟩ : ∃ l' p, l = l' ++ [p] := ⟨l.dropLast, l.getLast (by intro h0; subst h0; cases hl), (List.dropLast_concat_getLast _).symm⟩
    have ih := exS_bd (ex := ex) (L := L) (nx := nx) (ny := ny) k l' (by simpa using hl) fun q hq => h q (List.mem_append_left _ hq)
    have hp := at_bd ex p.1.x p.1.y p.1.pw nx ny L (h p (by simp))
    rw [exS_snoc]
    omega
/-- The external power at a node. -/
def exI (ex : Int) (N : List P2) (L : List Wl) (S : List Sr) (nd : Nat) (c f t : Int) : Int := match N[nd]? with
  | some q => exS ex L q.x q.y (S.zipIdx.filter (acQ c f t))
  | none => 0
def srW (p : Sr × Nat) : List Value := [.int .i64 p.1.x, .int .i64 p.1.y, .int .i64 p.1.pw, .slice (some ⟨5 + p.2, 0, none⟩) p.1.ch.length p.1.ch.length, .int .i64 p.1.per, .int .i64 p.1.fr, .int .i64 p.1.to']
theorem ren_srV {g : Nat → Nat} (hg : ∀ i, i < 13 → g i = i) {p : Sr × Nat} (h : p.2 < 8) : renL g [srV p] = [srV p] := by
  show [Value.agg #[_, _, _, Value.slice (some ⟨g (5 + p.2), 0, none⟩) _ _, _, _, _]] = _
  rw [hg _ (by omega)]
  rfl
theorem ren_srW {g : Nat → Nat} (hg : ∀ i, i < 13 → g i = i) {p : Sr × Nat} (h : p.2 < 8) : renL g (srW p) = srW p := by
  show [_, _, _, Value.slice (some ⟨g (5 + p.2), 0, none⟩) _ _, _, _, _] = _
  rw [hg _ (by omega)]
  rfl
set_option maxHeartbeats 32000000 in
theorem ac_External (N : List P2) (Pw : List Int) (L : List Wl) (n p w : Nat) (hn : N.length = n) (hp : Pw.length = p) (hw : L.length = w) (hb : n ≤ 1000000 ∧ p ≤ 1000000 ∧ w ≤ 1000000) (ex no th : Int) (hok : siteB N Pw L ex no th = true) (S : List Sr) (F : List Fd) (ns nf : Nat) (hns : S.length = ns) (hnf : F.length = nf) (hS : S.length ≤ 8) (hbf : nf ≤ 1000000) (hch : chsL S) (hsp : spB S F = true) (nd : Nat) (hndn : nd < n) (c f t : Int) (hc : 0 ≤ c ∧ c < 16) (hft : 0 ≤ f ∧ f ≤ t ∧ t ≤ 1099511627776) (v : Int) (hv : exI ex N L S nd c f t = v) :
    ACalls Tryz.prog 97 [.agg #[.slice (some ⟨0, 0, none⟩) n n, .slice (some ⟨1, 0, none⟩) p p, .slice (some ⟨2, 0, none⟩) w w, .int .i64 ex, .int .i64 no, .int .i64 th], .agg #[.slice (some ⟨3, 0, none⟩) ns ns, .slice (some ⟨4, 0, none⟩) nf nf], .int .i64 nd, .int .i64 c, .int .i64 f, .int .i64 t] [some ⟨N.flatMap ptC, false, 1⟩, some ⟨List.map (Value.int .i64) Pw, false, 1⟩, some ⟨L.flatMap wlC, false, 1⟩, some ⟨srcs S, false, 1⟩, some ⟨F.flatMap fdC, false, 1⟩, chB S 0, chB S 1, chB S 2, chB S 3, chB S 4, chB S 5, chB S 6, chB S 7] (.tuple #[.int .i64 v, .int .i64 0]) [none, none, none, none, none, none, none, none, none, none, none, none, none] := by
  have H1 := ac_site N Pw L n p w hn hp hw hb ex no th true hok
  have H2 := ac_spCheck S F ns nf hns hnf hS hbf hch true hsp
  have H3 := ac_chn c true (by unfold chnB; exact decide_eq_true hc)
  have H4 := ac_itv f t true (by unfold itvB; exact decide_eq_true hft)
  rw [if_pos rfl] at H1 H2
  obtain ⟨s1, s2, s3, s4, s5, _⟩ := site_ok hok
  obtain ⟨p1, p2, p3, p4⟩ := sp_ok hsp
  obtain ⟨⟨nx, ny⟩, hnd⟩ : ∃ q, N[nd]? = some q := ⟨_, List.getElem?_eq_getElem (by omega)⟩
  have hnp := s1.n _ (List.mem_of_getElem? hnd)
  dsimp only at hnp
  unfold exI at hv
  rw [hnd] at hv
  dsimp only at hv
  have hmem : ∀ x : Fin (S.zipIdx.filter (acQ c f t)).length, (S.zipIdx.filter (acQ c f t)).get x ∈ S.zipIdx := fun x => (List.mem_filter.1 (List.get_mem _ x)).1
  have hi8 : ∀ x : Fin (S.zipIdx.filter (acQ c f t)).length, ((S.zipIdx.filter (acQ c f t)).get x).2 < 8 ∧ ((S.zipIdx.filter (acQ c f t)).get x).1 ∈ S := fun x => by
    have h := hmem x
    refine ⟨?_, ?_⟩
    · have := List.snd_lt_of_mem_zipIdx h
      omega
    · obtain ⟨i, hi⟩ := List.getElem?_of_mem h
      rw [List.getElem?_zipIdx] at hi
      cases hq : S[i]? with
      | none => rw [hq] at hi; cases hi
      | some s =>
        rw [hq] at hi
        have : ((S.zipIdx.filter (acQ c f t)).get x).1 = s := by cases hi' : (S.zipIdx.filter (acQ c f t)).get x; rw [hi'] at hi; simp at hi; exact hi.1.symm
        rw [this]
        exact List.mem_of_getElem? hq
  have hKl : (S.zipIdx.filter (acQ c f t)).length ≤ 8 := Nat.le_trans (List.length_filter_le _ _) (by rw [List.length_zipIdx]; exact hS)
  have hbd : ∀ pre : List (Fin (S.zipIdx.filter (acQ c f t)).length), pre.length ≤ 8 → 0 ≤ exS ex L nx ny (pre.map fun x => (S.zipIdx.filter (acQ c f t)).get x) ∧ exS ex L nx ny (pre.map fun x => (S.zipIdx.filter (acQ c f t)).get x) ≤ 549755813888 := fun pre hl => by
    have := exS_bd (ex := ex) (L := L) (nx := nx) (ny := ny) _ (pre.map fun x => (S.zipIdx.filter (acQ c f t)).get x) rfl fun q hq => by
      obtain ⟨x, _, rfl⟩ := List.mem_map.1 hq
      have := p3 _ (hi8 x).2
      omega
    rw [List.length_map] at this
    omega
  refine acalls_of_aw Tryz.func97 rfl rfl ?_
  clear s2 s3 s4 s5 p4
  repeat' first | refine st ?_ | refine stRW [0, 1, 2] H1 ?_ | refine stRW [0, 1, 2, 3, 4, 5, 6, 7, 8, 9, 10, 11, 12] H2 ?_ (hsub := by (repeat (first | exact SubM.nil | apply SubM.hole | (apply SubM.rw; rfl; (first | exact WkL.refl _ | exact WkL.ofEq (renL_map (fun _ => rfl) _).symm | exact WkL.ofEq (renL_flat _).symm | exact WkL.ofEq (ren_srcs hS (gOf_id rfl)).symm)) | (apply SubM.ro; rfl; (first | exact WkL.refl _ | exact WkL.ofEq (renL_map (fun _ => rfl) _).symm | exact WkL.ofEq (renL_flat _).symm | exact WkL.ofEq (ren_srcs hS (gOf_id rfl)).symm))))) | refine st_call (H3) ?_ | refine st_call (H4) ?_ | refine stMW [0, 1, 2, 3, 4, 5, 6, 7, 8, 9, 10, 11, 12] (ac_active ns nf c f t) ?_ | refine stm ?_ | refine Ja ?_ | refine run_nil ?_ | refine Jz ?_ | refine Jw ?_ | refine aw_block ?_ | refine Jr ?_ | refine Jt ?_ | refine Jy ?_
  refine aw_fits (σh := [(6, .pointer (some ⟨13, 0, none⟩)), (8, .pointer (some ⟨15, 0, none⟩)), (14, .pointer (some ⟨16, 0, none⟩)), (51, .func (.func 122) #[] #[.pointer (some ⟨17, 0, none⟩), .pointer (some ⟨18, 0, none⟩), .pointer (some ⟨19, 0, none⟩), .pointer (some ⟨20, 0, none⟩)])]) (mh := (fun pre : List (Fin (S.zipIdx.filter (acQ c f t)).length) => [some ⟨N.flatMap ptC, false, 1⟩, some ⟨List.map (Value.int .i64) Pw, false, 1⟩, some ⟨L.flatMap wlC, false, 1⟩, some ⟨srcs S, false, 1⟩, some ⟨F.flatMap fdC, false, 1⟩, chB S 0, chB S 1, chB S 2, chB S 3, chB S 4, chB S 5, chB S 6, chB S 7, some ⟨[.slice (some ⟨0, 0, none⟩) n n, .slice (some ⟨1, 0, none⟩) p p, .slice (some ⟨2, 0, none⟩) w w, .int .i64 ex, .int .i64 no, .int .i64 th], true, 1⟩, some ⟨[.slice (some ⟨3, 0, none⟩) ns ns, .slice (some ⟨4, 0, none⟩) nf nf], true, 1⟩, some ⟨[.int .i64 nd], true, 1⟩, some ⟨[.int .i64 (exS ex L nx ny (pre.map fun x => (S.zipIdx.filter (acQ c f t)).get x))], true, 1⟩, some ⟨[.slice (some ⟨3, 0, none⟩) ns ns, .slice (some ⟨4, 0, none⟩) nf nf], true, 1⟩, some ⟨[.int .i64 c], true, 1⟩, some ⟨[.int .i64 f], true, 1⟩, some ⟨[.int .i64 t], true, 1⟩]) []) (fitsD [0, 1, 2, 3, 4, 5, 6, 7, 8, 9, 10, 11, 12, 13, 14, 15, 16, 17, 18, 19, 20] (h4 := (by (repeat (first | exact MemD.nil | apply MemD.hole | (apply MemD.blk; rfl; (first | exact WkL.refl _ | exact WkL.ofEq (renL_map (fun _ => rfl) _).symm | exact WkL.ofEq (renL_flat _).symm | exact WkL.ofEq (ren_srcs hS (gOf_id rfl)).symm); rfl)))))) ?_
  refine aw_rangeGB (gf := 122) (caps := [.pointer (some ⟨13, 0, none⟩), .pointer (some ⟨14, 0, none⟩), .pointer (some ⟨15, 0, none⟩), .pointer (some ⟨16, 0, none⟩)]) 21 (gOf [0, 1, 2, 3, 4, 5, 6, 7, 8, 9, 10, 11, 12, 17, 18, 19, 20] 21) (fun pre : List (Fin (S.zipIdx.filter (acQ c f t)).length) => [some ⟨N.flatMap ptC, false, 1⟩, some ⟨List.map (Value.int .i64) Pw, false, 1⟩, some ⟨L.flatMap wlC, false, 1⟩, some ⟨srcs S, false, 1⟩, some ⟨F.flatMap fdC, false, 1⟩, chB S 0, chB S 1, chB S 2, chB S 3, chB S 4, chB S 5, chB S 6, chB S 7, some ⟨[.slice (some ⟨0, 0, none⟩) n n, .slice (some ⟨1, 0, none⟩) p p, .slice (some ⟨2, 0, none⟩) w w, .int .i64 ex, .int .i64 no, .int .i64 th], true, 1⟩, some ⟨[.slice (some ⟨3, 0, none⟩) ns ns, .slice (some ⟨4, 0, none⟩) nf nf], true, 1⟩, some ⟨[.int .i64 nd], true, 1⟩, some ⟨[.int .i64 (exS ex L nx ny (pre.map fun x => (S.zipIdx.filter (acQ c f t)).get x))], true, 1⟩, some ⟨[.slice (some ⟨3, 0, none⟩) ns ns, .slice (some ⟨4, 0, none⟩) nf nf], true, 1⟩, some ⟨[.int .i64 c], true, 1⟩, some ⟨[.int .i64 f], true, 1⟩, some ⟨[.int .i64 t], true, 1⟩]) (fun x => ⟨srW ((S.zipIdx.filter (acQ c f t)).get x), true, 1⟩) (fun _ => True) (fun _ => [(6, .pointer (some ⟨13, 0, none⟩)), (8, .pointer (some ⟨15, 0, none⟩)), (14, .pointer (some ⟨16, 0, none⟩)), (15, .pointer (some ⟨21, 0, none⟩))]) (fun _ _ => False)
    (it_active S ns nf hns hS hch p2 c f t hft) rfl rfl trivial (by show 13 ≤ 21; omega) (by show ∀ i, i < 17 → gOf [0, 1, 2, 3, 4, 5, 6, 7, 8, 9, 10, 11, 12, 17, 18, 19, 20] 21 i < 21; decide) rfl rfl rfl (by decide) (fun _ => rfl) (fun pre => ⟨rfl, noMap_of rfl, by show Renum 0 (gOf [0, 1, 2, 3, 4, 5, 6, 7, 8, 9, 10, 11, 12, 17, 18, 19, 20] (List.length ([some ⟨N.flatMap ptC, false, 1⟩, some ⟨List.map (Value.int .i64) Pw, false, 1⟩, some ⟨L.flatMap wlC, false, 1⟩, some ⟨srcs S, false, 1⟩, some ⟨F.flatMap fdC, false, 1⟩, chB S 0, chB S 1, chB S 2, chB S 3, chB S 4, chB S 5, chB S 6, chB S 7, some ⟨[.slice (some ⟨0, 0, none⟩) n n, .slice (some ⟨1, 0, none⟩) p p, .slice (some ⟨2, 0, none⟩) w w, .int .i64 ex, .int .i64 no, .int .i64 th], true, 1⟩, some ⟨[.slice (some ⟨3, 0, none⟩) ns ns, .slice (some ⟨4, 0, none⟩) nf nf], true, 1⟩, some ⟨[.int .i64 nd], true, 1⟩, some ⟨[.int .i64 (exS ex L nx ny (pre.map fun x => (S.zipIdx.filter (acQ c f t)).get x))], true, 1⟩, some ⟨[.slice (some ⟨3, 0, none⟩) ns ns, .slice (some ⟨4, 0, none⟩) nf nf], true, 1⟩, some ⟨[.int .i64 c], true, 1⟩, some ⟨[.int .i64 f], true, 1⟩, some ⟨[.int .i64 t], true, 1⟩] : Mem))) ([some ⟨N.flatMap ptC, false, 1⟩, some ⟨List.map (Value.int .i64) Pw, false, 1⟩, some ⟨L.flatMap wlC, false, 1⟩, some ⟨srcs S, false, 1⟩, some ⟨F.flatMap fdC, false, 1⟩, chB S 0, chB S 1, chB S 2, chB S 3, chB S 4, chB S 5, chB S 6, chB S 7, some ⟨[.slice (some ⟨0, 0, none⟩) n n, .slice (some ⟨1, 0, none⟩) p p, .slice (some ⟨2, 0, none⟩) w w, .int .i64 ex, .int .i64 no, .int .i64 th], true, 1⟩, some ⟨[.slice (some ⟨3, 0, none⟩) ns ns, .slice (some ⟨4, 0, none⟩) nf nf], true, 1⟩, some ⟨[.int .i64 nd], true, 1⟩, some ⟨[.int .i64 (exS ex L nx ny (pre.map fun x => (S.zipIdx.filter (acQ c f t)).get x))], true, 1⟩, some ⟨[.slice (some ⟨3, 0, none⟩) ns ns, .slice (some ⟨4, 0, none⟩) nf nf], true, 1⟩, some ⟨[.int .i64 c], true, 1⟩, some ⟨[.int .i64 f], true, 1⟩, some ⟨[.int .i64 t], true, 1⟩] : Mem) _; exact renumD [0, 1, 2, 3, 4, 5, 6, 7, 8, 9, 10, 11, 12, 17, 18, 19, 20] (h4 := (by (repeat (first | exact MemD.nil | apply MemD.hole | (apply MemD.blk; rfl; (first | exact WkL.refl _ | exact WkL.ofEq (renL_map (fun _ => rfl) _).symm | exact WkL.ofEq (renL_flat _).symm | exact WkL.ofEq (ren_srcs hS (gOf_id rfl)).symm); rfl)))))⟩) (fun pre => by repeat' first | intro h1 | exact SameSh.nil | apply SameSh.keep | refine SameSh.chg (by simp) (by simp) ?_) (fun x => ⟨rfl, by show (1 : Nat) ≠ mapZ; decide⟩) (fun x h => List.cons_ne_nil _ _ h) (fun pre x => ⟨_, by exact renumD [0, 1, 2, 3, 4, 5, 6, 7, 8, 9, 10, 11, 12, 13, 14, 15, 16, 17, 18, 19, 20] (h4 := (by (repeat (first | exact MemD.nil | apply MemD.hole | (apply MemD.blk; rfl; (first | exact WkL.refl _ | exact WkL.ofEq (renL_map (fun _ => rfl) _).symm | exact WkL.ofEq (renL_flat _).symm | exact WkL.ofEq (ren_srcs hS (gOf_id rfl)).symm); rfl)))))⟩) (fun _ _ h => h.elim) ?_ ?_ ?_ (fun _ _ h => h.elim)
  · intro pre x
    have hx8 := (hi8 x).1
    obtain ⟨⟨⟨x0, y0, pw, ch, per, fr, to'⟩, i⟩, hx⟩ : ∃ u, (S.zipIdx.filter (acQ c f t)).get x = u := ⟨_, rfl⟩
    unfold acE
    rw [hx] at hx8 ⊢
    rw [ren_srV (gOf_id rfl) hx8]
    repeat' first | refine stm ?_ | refine run_nil ?_ | refine Jw ?_
    all_goals exact ⟨rfl, fitsD [0, 1, 2, 3, 4, 5, 6, 7, 8, 9, 10, 11, 12, 13, 14, 15, 16, 17, 18, 19, 20, 21] (h4 := (by (repeat (first | exact MemD.nil | apply MemD.hole | (apply MemD.blk; rfl; (first | exact WkL.ofEq (ren_srW (gOf_id rfl) hx8).symm | exact WkL.refl _ | exact WkL.ofEq (renL_map (fun _ => rfl) _).symm | exact WkL.ofEq (renL_flat _).symm | exact WkL.ofEq (ren_srcs hS (gOf_id rfl)).symm); rfl)))))⟩
  · intro pre x _ hpl
    have hx3 := p3 _ (hi8 x).2
    obtain ⟨⟨⟨x0, y0, pw, ch, per, fr, to'⟩, i⟩, hx⟩ : ∃ u, (S.zipIdx.filter (acQ c f t)).get x = u := ⟨_, rfl⟩
    have hb0 := hbd pre (by omega)
    obtain ⟨q, hq⟩ : ∃ u, exS ex L nx ny (pre.map fun x => (S.zipIdx.filter (acQ c f t)).get x) = u := ⟨_, rfl⟩
    rw [hq] at hb0
    rw [hx] at hx3
    dsimp only at hx3
    obtain ⟨a, ha⟩ : ∃ a, atI ex x0 y0 pw nx ny L = a := ⟨_, rfl⟩
    have hab := at_bd ex x0 y0 pw nx ny L (by omega)
    rw [ha] at hab
    have hu : exS ex L nx ny ((pre ++ [x]).map fun x => (S.zipIdx.filter (acQ c f t)).get x) = q + a := by
      rw [List.map_append]
      show exS ex L nx ny (_ ++ [(S.zipIdx.filter (acQ c f t)).get x]) = _
      rw [exS_snoc, hq, hx]
      dsimp only
      rw [ha]
    have H5 := ac_At N Pw L n p w hn hp hw hb ex no th x0 y0 pw nx ny hok (by omega) (by omega) a ha
    clear ha
    rw [hx, hq, hu]
    repeat' first | refine sdl (h := ok_load_rowsE (f := ptC) (cs := [.int .i64 nx, .int .i64 ny]) nd (fun _ => rfl) hnd rfl rfl rfl rfl (by omega)) ?_ | refine st ?_ | refine sdRW [0, 1, 2] H5 ?_ | refine stm ?_ | refine run_nil ?_ | refine sd ?_ | refine sdl ?_ | refine rund_nil ?_ | refine Jz ?_ | refine Jw ?_ | refine Jx (id := 10) [0,0,2,0,8,0,32,0,224,480,1023,2047,4095,4095,8191,32767] 16 ?_ | refine aw_block ?_
    all_goals exact .inl ⟨rfl, fitsD [0, 1, 2, 3, 4, 5, 6, 7, 8, 9, 10, 11, 12, 13, 14, 15, 16, 17, 18, 19, 20] (h4 := (by (repeat (first | exact MemD.nil | apply MemD.hole | (apply MemD.blk; rfl; (first | exact WkL.refl _ | exact WkL.ofEq (renL_map (fun _ => rfl) _).symm | exact WkL.ofEq (renL_flat _).symm | exact WkL.ofEq (ren_srcs hS (gOf_id rfl)).symm); rfl))))), trivial⟩
  · intro _
    have hu : exS ex L nx ny ((List.finRange _).map fun x => (S.zipIdx.filter (acQ c f t)).get x) = v := by
      rw [← hv]
      congr 1
      apply List.ext_getElem
      · simp
      · intro i h1 h2
        simp
    rw [hu]
    repeat' first | refine st ?_ | refine run_nil ?_ | refine Jz ?_ | refine Jw ?_ | refine aw_ret ?_
    all_goals exact pm_ret _ (renumD [0, 1, 2, 3, 4, 5, 6, 7, 8, 9, 10, 11, 12] (h4 := (by (repeat (first | exact MemD.nil | apply MemD.hole | (apply MemD.blk; rfl; (first | exact WkL.refl _ | exact WkL.ofEq (renL_map (fun _ => rfl) _).symm | exact WkL.ofEq (renL_flat _).symm | exact WkL.ofEq (ren_srcs hS (gOf_id rfl)).symm); rfl)))))) rfl
end Go.Proofs.YtdenooeaiicheaaGreat
