/- Air: interference. Air: received. -/
import Derived.Test.YtdenooeaiicheaaGreatVL
import Derived.Test.YtdenooeaiicheaaGreatY1
set_option linter.unusedVariables false
set_option linter.unusedSimpArgs false
namespace Go.Proofs.YtdenooeaiicheaaGreat
open Go Av
set_option maxRecDepth 20000
/-- Emissions that are right on a site with n nodes. -/
def emOK (n : Nat) (E : List Em) : Prop := ∀ e ∈ E, (0 ≤ e.nd ∧ e.nd < n) ∧ (0 ≤ e.ch ∧ e.ch < 16) ∧ 0 ≤ e.fr ∧ e.fr < e.to' ∧ e.to' ≤ 1099511627776
def sgX (ex : Int) (N : List P2) (Pw : List Int) (L : List Wl) (F : List Fd) (nd : Nat) (e : Em) : Int := sgI ex N Pw L F e.nd.toNat nd e.ch e.fr
theorem sgX_bd (ex : Int) (N : List P2) (Pw : List Int) (L : List Wl) (F : List Fd) (nd : Nat) (e : Em) : 0 ≤ sgX ex N Pw L F nd e ∧ sgX ex N Pw L F nd e ≤ 68719476736 := sc_bd _ _
/-- The signals of emissions, added to a number. -/
def inS (ex : Int) (N : List P2) (Pw : List Int) (L : List Wl) (F : List Fd) (nd : Nat) (q : Int) (l : List (Em × Nat)) : Int := l.foldl (fun s x => s + sgX ex N Pw L F nd x.1) q
theorem inS_snoc (ex : Int) (N : List P2) (Pw : List Int) (L : List Wl) (F : List Fd) (nd : Nat) (q : Int) (l : List (Em × Nat)) (p : Em × Nat) : inS ex N Pw L F nd q (l ++ [p]) = inS ex N Pw L F nd q l + sgX ex N Pw L F nd p.1 := by
  unfold inS
  rw [List.foldl_append]
  rfl
theorem inS_bd {ex : Int} {N : List P2} {Pw : List Int} {L : List Wl} {F : List Fd} {nd : Nat} {q : Int} : ∀ (k : Nat) (l : List (Em × Nat)), l.length = k → q ≤ inS ex N Pw L F nd q l ∧ inS ex N Pw L F nd q l ≤ q + 68719476736 * k
  | 0, l, hl => by
    obtain rfl := List.eq_nil_of_length_eq_zero hl
    exact ⟨Int.le_refl _, Int.le_of_eq (by show q = _; omega)⟩
  | k + 1, l, hl => by
    obtain ⟨l', p, rfl⟩ : ∃ l' p, l = l' ++ [p] := ⟨l.dropLast, l.getLast (by intro h0; subst h0; cases hl), (List.dropLast_concat_getLast _).symm⟩
    have ih := inS_bd (ex := ex) (N := N) (Pw := Pw) (L := L) (F := F) (nd := nd) (q := q) k l' (by simpa using hl)
    have hp := sgX_bd ex N Pw L F nd p.1
    rw [inS_snoc]
    omega
/-- The interference with an emission at a node. -/
def inI (ex : Int) (N : List P2) (Pw : List Int) (L : List Wl) (S : List Sr) (F : List Fd) (E : List Em) (i0 : Nat) (e : Em) (nd : Nat) : Int := inS ex N Pw L F nd (exI ex N L S nd e.ch e.fr e.to') (E.zipIdx.filter (otB i0 nd e))
theorem exI_bd {ex : Int} {N : List P2} {L : List Wl} {S : List Sr} {nd : Nat} {c f t : Int} (hS : S.length ≤ 8) (h : ∀ s ∈ S, 0 ≤ s.pw ∧ s.pw ≤ 68719476736) : 0 ≤ exI ex N L S nd c f t ∧ exI ex N L S nd c f t ≤ 549755813888 := by
  unfold exI
  split
  · rename_i q _
    have h1 : (S.zipIdx.filter (acQ c f t)).length ≤ 8 := Nat.le_trans (List.length_filter_le _ _) (by rw [List.length_zipIdx]; exact hS)
    have := exS_bd (ex := ex) (L := L) (nx := q.x) (ny := q.y) _ (S.zipIdx.filter (acQ c f t)) rfl fun p hp => by
      have hm := (List.mem_filter.1 hp).1
      obtain ⟨i, hi⟩ := List.getElem?_of_mem hm
      rw [List.getElem?_zipIdx] at hi
      cases hq : S[i]? with
      | none => rw [hq] at hi; cases hi
      | some s =>
        rw [hq] at hi
        simp at hi
        rw [← hi]
        exact h _ (List.mem_of_getElem? hq)
    omega
  · omega
set_option maxHeartbeats 32000000 in
theorem ac_intf (N : List P2) (Pw : List Int) (L : List Wl) (n p w : Nat) (hn : N.length = n) (hp : Pw.length = p) (hw : L.length = w) (hb : n ≤ 1000000 ∧ p ≤ 1000000 ∧ w ≤ 1000000) (ex no th : Int) (hok : siteB N Pw L ex no th = true) (S : List Sr) (F : List Fd) (ns nf : Nat) (hns : S.length = ns) (hnf : F.length = nf) (hS : S.length ≤ 8) (hbf : nf ≤ 1000000) (hch : chsL S) (hsp : spB S F = true) (E : List Em) (ne : Nat) (hne : E.length = ne) (hbe : ne ≤ 1000) (hem : emOK n E) (i0 : Nat) (n0 c0 f0 t0 : Int) (hq0 : E[i0]? = some ⟨n0, c0, f0, t0⟩) (nd : Nat) (hnd : nd < n) (v : Int) (hv : inI ex N Pw L S F E i0 ⟨n0, c0, f0, t0⟩ nd = v) :
    ACalls Tryz.prog 53 [.agg #[.slice (some ⟨0, 0, none⟩) n n, .slice (some ⟨1, 0, none⟩) p p, .slice (some ⟨2, 0, none⟩) w w, .int .i64 ex, .int .i64 no, .int .i64 th, .slice (some ⟨3, 0, none⟩) ns ns, .slice (some ⟨4, 0, none⟩) nf nf, .slice (some ⟨13, 0, none⟩) ne ne, .func (.func 66) #[] #[.pointer (some ⟨14, 0, none⟩)]], .int .i64 i0, .int .i64 nd] [some ⟨N.flatMap ptC, false, 1⟩, some ⟨List.map (Value.int .i64) Pw, false, 1⟩, some ⟨L.flatMap wlC, false, 1⟩, some ⟨srcs S, false, 1⟩, some ⟨F.flatMap fdC, false, 1⟩, chB S 0, chB S 1, chB S 2, chB S 3, chB S 4, chB S 5, chB S 6, chB S 7, some ⟨E.flatMap emC, false, 4⟩, none] (.int .i64 v) [none, none, none, none, none, none, none, none, none, none, none, none, none, none, none] := by
  have hi0 : i0 < ne := by rw [← hne]; exact (List.getElem?_eq_some_iff.1 hq0).1
  have he0 := hem _ (List.mem_of_getElem? hq0)
  dsimp only at he0
  obtain ⟨q0, hq⟩ : ∃ q, exI ex N L S nd c0 f0 t0 = q := ⟨_, rfl⟩
  have H1 := ac_ext N Pw L n p w hn hp hw hb ex no th hok S F ns nf hns hnf hS hbf hch hsp E ne hne (by omega) i0 n0 c0 f0 t0 hq0 nd hnd (by omega) (by omega) q0 hq
  have hqb := exI_bd (ex := ex) (N := N) (L := L) (nd := nd) (c := c0) (f := f0) (t := t0) hS fun s hs => ((sp_ok hsp).2.2.1 s hs).2.2
  rw [hq] at hqb
  unfold inI at hv
  dsimp only at hv
  rw [hq] at hv
  clear hq
  have hmem : ∀ x : Fin (E.zipIdx.filter (otB i0 nd ⟨n0, c0, f0, t0⟩)).length, ((E.zipIdx.filter (otB i0 nd ⟨n0, c0, f0, t0⟩)).get x).1 ∈ E := fun x => by
    have h := (List.mem_filter.1 (List.get_mem _ x)).1
    obtain ⟨i, hi⟩ := List.getElem?_of_mem h
    rw [List.getElem?_zipIdx] at hi
    cases hq : E[i]? with
    | none => rw [hq] at hi; cases hi
    | some s =>
      rw [hq] at hi
      have : ((E.zipIdx.filter (otB i0 nd ⟨n0, c0, f0, t0⟩)).get x).1 = s := by cases hi' : (E.zipIdx.filter (otB i0 nd ⟨n0, c0, f0, t0⟩)).get x; rw [hi'] at hi; simp at hi; exact hi.1.symm
      rw [this]
      exact List.mem_of_getElem? hq
  have hKl : (E.zipIdx.filter (otB i0 nd ⟨n0, c0, f0, t0⟩)).length ≤ 1000 := Nat.le_trans (List.length_filter_le _ _) (by rw [List.length_zipIdx]; omega)
  have hbd : ∀ pre : List (Fin (E.zipIdx.filter (otB i0 nd ⟨n0, c0, f0, t0⟩)).length), pre.length ≤ 1000 → 0 ≤ inS ex N Pw L F nd q0 (pre.map fun x => (E.zipIdx.filter (otB i0 nd ⟨n0, c0, f0, t0⟩)).get x) ∧ inS ex N Pw L F nd q0 (pre.map fun x => (E.zipIdx.filter (otB i0 nd ⟨n0, c0, f0, t0⟩)).get x) ≤ 69269232549888 := fun pre hl => by
    have := inS_bd (ex := ex) (N := N) (Pw := Pw) (L := L) (F := F) (nd := nd) (q := q0) _ (pre.map fun x => (E.zipIdx.filter (otB i0 nd ⟨n0, c0, f0, t0⟩)).get x) rfl
    rw [List.length_map] at this
    omega
  refine acalls_of_aw Tryz.func53 rfl rfl ?_
  clear he0
  repeat' first | refine st ?_ | refine stRW [0, 1, 2, 3, 4, 5, 6, 7, 8, 9, 10, 11, 12, 13, 14] H1 ?_ (hsub := by (repeat (first | exact SubM.nil | apply SubM.hole | (apply SubM.rw; rfl; (first | exact WkL.refl _ | exact WkL.ofEq (renL_map (fun _ => rfl) _).symm | exact WkL.ofEq (renL_flat _).symm | exact WkL.ofEq (ren_srcs hS (gOf_id rfl)).symm)) | (apply SubM.ro; rfl; (first | exact WkL.refl _ | exact WkL.ofEq (renL_map (fun _ => rfl) _).symm | exact WkL.ofEq (renL_flat _).symm | exact WkL.ofEq (ren_srcs hS (gOf_id rfl)).symm))))) | refine stMW [0, 1, 2, 3, 4, 5, 6, 7, 8, 9, 10, 11, 12, 13, 14] (ac_others n p w ns nf ne ex no th i0 nd) ?_ | refine stm ?_ | refine run_nil ?_ | refine Jz ?_ | refine Jw ?_ | refine aw_block ?_
  refine aw_fits (σh := [(3, .pointer (some ⟨15, 0, none⟩)), (5, .pointer (some ⟨16, 0, none⟩)), (7, .pointer (some ⟨17, 0, none⟩)), (17, .func (.func 98) #[] #[.pointer (some ⟨18, 0, none⟩), .pointer (some ⟨19, 0, none⟩), .pointer (some ⟨20, 0, none⟩)])]) (mh := (fun pre : List (Fin (E.zipIdx.filter (otB i0 nd ⟨n0, c0, f0, t0⟩)).length) => [some ⟨N.flatMap ptC, false, 1⟩, some ⟨List.map (Value.int .i64) Pw, false, 1⟩, some ⟨L.flatMap wlC, false, 1⟩, some ⟨srcs S, false, 1⟩, some ⟨F.flatMap fdC, false, 1⟩, chB S 0, chB S 1, chB S 2, chB S 3, chB S 4, chB S 5, chB S 6, chB S 7, some ⟨E.flatMap emC, false, 4⟩, none, some ⟨[.slice (some ⟨0, 0, none⟩) n n, .slice (some ⟨1, 0, none⟩) p p, .slice (some ⟨2, 0, none⟩) w w, .int .i64 ex, .int .i64 no, .int .i64 th, .slice (some ⟨3, 0, none⟩) ns ns, .slice (some ⟨4, 0, none⟩) nf nf, .slice (some ⟨13, 0, none⟩) ne ne, .func (.func 66) #[] #[.pointer (some ⟨14, 0, none⟩)]], true, 1⟩, some ⟨[.int .i64 nd], true, 1⟩, some ⟨[.int .i64 (inS ex N Pw L F nd q0 (pre.map fun x => (E.zipIdx.filter (otB i0 nd ⟨n0, c0, f0, t0⟩)).get x))], true, 1⟩, some ⟨[.slice (some ⟨0, 0, none⟩) n n, .slice (some ⟨1, 0, none⟩) p p, .slice (some ⟨2, 0, none⟩) w w, .int .i64 ex, .int .i64 no, .int .i64 th, .slice (some ⟨3, 0, none⟩) ns ns, .slice (some ⟨4, 0, none⟩) nf nf, .slice (some ⟨13, 0, none⟩) ne ne, .func (.func 66) #[] #[.pointer (some ⟨14, 0, none⟩)]], true, 1⟩, some ⟨[.int .i64 i0], true, 1⟩, some ⟨[.int .i64 nd], true, 1⟩]) []) (fitsD [0, 1, 2, 3, 4, 5, 6, 7, 8, 9, 10, 11, 12, 13, 14, 15, 16, 17, 18, 19, 20] (h4 := (by (repeat (first | exact MemD.nil | apply MemD.hole | (apply MemD.blk; rfl; (first | exact WkL.refl _ | exact WkL.ofEq (renL_map (fun _ => rfl) _).symm | exact WkL.ofEq (renL_flat _).symm | exact WkL.ofEq (ren_srcs hS (gOf_id rfl)).symm); rfl)))))) ?_
  refine aw_rangeGB (gf := 98) (caps := [.pointer (some ⟨0, 0, none⟩), .pointer (some ⟨1, 0, none⟩), .pointer (some ⟨2, 0, none⟩)]) 21 (gOf [18, 19, 20, 0, 1, 2, 3, 4, 13, 14] 21) (fun pre : List (Fin (E.zipIdx.filter (otB i0 nd ⟨n0, c0, f0, t0⟩)).length) => [some ⟨N.flatMap ptC, false, 1⟩, some ⟨List.map (Value.int .i64) Pw, false, 1⟩, some ⟨L.flatMap wlC, false, 1⟩, some ⟨srcs S, false, 1⟩, some ⟨F.flatMap fdC, false, 1⟩, chB S 0, chB S 1, chB S 2, chB S 3, chB S 4, chB S 5, chB S 6, chB S 7, some ⟨E.flatMap emC, false, 4⟩, none, some ⟨[.slice (some ⟨0, 0, none⟩) n n, .slice (some ⟨1, 0, none⟩) p p, .slice (some ⟨2, 0, none⟩) w w, .int .i64 ex, .int .i64 no, .int .i64 th, .slice (some ⟨3, 0, none⟩) ns ns, .slice (some ⟨4, 0, none⟩) nf nf, .slice (some ⟨13, 0, none⟩) ne ne, .func (.func 66) #[] #[.pointer (some ⟨14, 0, none⟩)]], true, 1⟩, some ⟨[.int .i64 nd], true, 1⟩, some ⟨[.int .i64 (inS ex N Pw L F nd q0 (pre.map fun x => (E.zipIdx.filter (otB i0 nd ⟨n0, c0, f0, t0⟩)).get x))], true, 1⟩, some ⟨[.slice (some ⟨0, 0, none⟩) n n, .slice (some ⟨1, 0, none⟩) p p, .slice (some ⟨2, 0, none⟩) w w, .int .i64 ex, .int .i64 no, .int .i64 th, .slice (some ⟨3, 0, none⟩) ns ns, .slice (some ⟨4, 0, none⟩) nf nf, .slice (some ⟨13, 0, none⟩) ne ne, .func (.func 66) #[] #[.pointer (some ⟨14, 0, none⟩)]], true, 1⟩, some ⟨[.int .i64 i0], true, 1⟩, some ⟨[.int .i64 nd], true, 1⟩]) (fun x => ⟨emC ((E.zipIdx.filter (otB i0 nd ⟨n0, c0, f0, t0⟩)).get x).1, true, 1⟩) (fun _ => True) (fun _ => [(3, .pointer (some ⟨15, 0, none⟩)), (5, .pointer (some ⟨16, 0, none⟩)), (7, .pointer (some ⟨17, 0, none⟩)), (9, .pointer (some ⟨21, 0, none⟩))]) (fun _ _ => False)
    (it_others i0 ne n p w ns nf nd ex no th n0 c0 f0 t0 E hne (by omega) hq0) rfl rfl trivial (by show 15 ≤ 21; omega) (by show ∀ i, i < 10 → gOf [18, 19, 20, 0, 1, 2, 3, 4, 13, 14] 21 i < 21; decide) rfl rfl rfl (by decide) (fun _ => rfl) (fun pre => ⟨rfl, noMap_of rfl, by show Renum 0 (gOf [18, 19, 20, 0, 1, 2, 3, 4, 13, 14] (List.length ([some ⟨N.flatMap ptC, false, 1⟩, some ⟨List.map (Value.int .i64) Pw, false, 1⟩, some ⟨L.flatMap wlC, false, 1⟩, some ⟨srcs S, false, 1⟩, some ⟨F.flatMap fdC, false, 1⟩, chB S 0, chB S 1, chB S 2, chB S 3, chB S 4, chB S 5, chB S 6, chB S 7, some ⟨E.flatMap emC, false, 4⟩, none, some ⟨[.slice (some ⟨0, 0, none⟩) n n, .slice (some ⟨1, 0, none⟩) p p, .slice (some ⟨2, 0, none⟩) w w, .int .i64 ex, .int .i64 no, .int .i64 th, .slice (some ⟨3, 0, none⟩) ns ns, .slice (some ⟨4, 0, none⟩) nf nf, .slice (some ⟨13, 0, none⟩) ne ne, .func (.func 66) #[] #[.pointer (some ⟨14, 0, none⟩)]], true, 1⟩, some ⟨[.int .i64 nd], true, 1⟩, some ⟨[.int .i64 (inS ex N Pw L F nd q0 (pre.map fun x => (E.zipIdx.filter (otB i0 nd ⟨n0, c0, f0, t0⟩)).get x))], true, 1⟩, some ⟨[.slice (some ⟨0, 0, none⟩) n n, .slice (some ⟨1, 0, none⟩) p p, .slice (some ⟨2, 0, none⟩) w w, .int .i64 ex, .int .i64 no, .int .i64 th, .slice (some ⟨3, 0, none⟩) ns ns, .slice (some ⟨4, 0, none⟩) nf nf, .slice (some ⟨13, 0, none⟩) ne ne, .func (.func 66) #[] #[.pointer (some ⟨14, 0, none⟩)]], true, 1⟩, some ⟨[.int .i64 i0], true, 1⟩, some ⟨[.int .i64 nd], true, 1⟩] : Mem))) ([some ⟨N.flatMap ptC, false, 1⟩, some ⟨List.map (Value.int .i64) Pw, false, 1⟩, some ⟨L.flatMap wlC, false, 1⟩, some ⟨srcs S, false, 1⟩, some ⟨F.flatMap fdC, false, 1⟩, chB S 0, chB S 1, chB S 2, chB S 3, chB S 4, chB S 5, chB S 6, chB S 7, some ⟨E.flatMap emC, false, 4⟩, none, some ⟨[.slice (some ⟨0, 0, none⟩) n n, .slice (some ⟨1, 0, none⟩) p p, .slice (some ⟨2, 0, none⟩) w w, .int .i64 ex, .int .i64 no, .int .i64 th, .slice (some ⟨3, 0, none⟩) ns ns, .slice (some ⟨4, 0, none⟩) nf nf, .slice (some ⟨13, 0, none⟩) ne ne, .func (.func 66) #[] #[.pointer (some ⟨14, 0, none⟩)]], true, 1⟩, some ⟨[.int .i64 nd], true, 1⟩, some ⟨[.int .i64 (inS ex N Pw L F nd q0 (pre.map fun x => (E.zipIdx.filter (otB i0 nd ⟨n0, c0, f0, t0⟩)).get x))], true, 1⟩, some ⟨[.slice (some ⟨0, 0, none⟩) n n, .slice (some ⟨1, 0, none⟩) p p, .slice (some ⟨2, 0, none⟩) w w, .int .i64 ex, .int .i64 no, .int .i64 th, .slice (some ⟨3, 0, none⟩) ns ns, .slice (some ⟨4, 0, none⟩) nf nf, .slice (some ⟨13, 0, none⟩) ne ne, .func (.func 66) #[] #[.pointer (some ⟨14, 0, none⟩)]], true, 1⟩, some ⟨[.int .i64 i0], true, 1⟩, some ⟨[.int .i64 nd], true, 1⟩] : Mem) _; exact renumD [18, 19, 20, 0, 1, 2, 3, 4, 13, 14]⟩) (fun pre => by repeat' first | intro h1 | exact SameSh.nil | apply SameSh.keep | refine SameSh.chg (by simp) (by simp) ?_) (fun x => ⟨rfl, by show (1 : Nat) ≠ mapZ; decide⟩) (fun x h => List.cons_ne_nil _ _ h) (fun pre x => ⟨_, by exact renumD [0, 1, 2, 3, 4, 5, 6, 7, 8, 9, 10, 11, 12, 13, 14, 15, 16, 17, 18, 19, 20] (h4 := (by (repeat (first | exact MemD.nil | apply MemD.hole | (apply MemD.blk; rfl; (first | exact WkL.refl _ | exact WkL.ofEq (renL_map (fun _ => rfl) _).symm | exact WkL.ofEq (renL_flat _).symm | exact WkL.ofEq (ren_srcs hS (gOf_id rfl)).symm); rfl)))))⟩) (fun _ _ h => h.elim) ?_ ?_ ?_ (fun _ _ h => h.elim)
  · intro pre x
    obtain ⟨⟨⟨n1, c1, f1, t1⟩, k⟩, hx⟩ : ∃ u, (E.zipIdx.filter (otB i0 nd ⟨n0, c0, f0, t0⟩)).get x = u := ⟨_, rfl⟩
    unfold otE
    rw [hx]
    repeat' first | refine stm ?_ | refine run_nil ?_ | refine Jw ?_
    all_goals exact ⟨rfl, fitsD [0, 1, 2, 3, 4, 5, 6, 7, 8, 9, 10, 11, 12, 13, 14, 15, 16, 17, 18, 19, 20, 21] (h4 := (by (repeat (first | exact MemD.nil | apply MemD.hole | (apply MemD.blk; rfl; (first | exact WkL.refl _ | exact WkL.ofEq (renL_map (fun _ => rfl) _).symm | exact WkL.ofEq (renL_flat _).symm | exact WkL.ofEq (ren_srcs hS (gOf_id rfl)).symm); rfl)))))⟩
  · intro pre x _ hpl
    have hx3 := hem _ (hmem x)
    obtain ⟨⟨⟨n1, c1, f1, t1⟩, k⟩, hx⟩ : ∃ u, (E.zipIdx.filter (otB i0 nd ⟨n0, c0, f0, t0⟩)).get x = u := ⟨_, rfl⟩
    have hb0 := hbd pre (by omega)
    obtain ⟨q, hq⟩ : ∃ u, inS ex N Pw L F nd q0 (pre.map fun x => (E.zipIdx.filter (otB i0 nd ⟨n0, c0, f0, t0⟩)).get x) = u := ⟨_, rfl⟩
    rw [hq] at hb0
    rw [hx] at hx3
    dsimp only at hx3
    obtain ⟨a1, rfl⟩ : ∃ a : Nat, n1 = a := ⟨n1.toNat, by omega⟩
    obtain ⟨a, ha⟩ : ∃ a, sgX ex N Pw L F nd ⟨a1, c1, f1, t1⟩ = a := ⟨_, rfl⟩
    have hab := sgX_bd ex N Pw L F nd ⟨a1, c1, f1, t1⟩
    rw [ha] at hab
    have hu : inS ex N Pw L F nd q0 ((pre ++ [x]).map fun x => (E.zipIdx.filter (otB i0 nd ⟨n0, c0, f0, t0⟩)).get x) = q + a := by
      rw [List.map_append]
      show inS ex N Pw L F nd q0 (_ ++ [(E.zipIdx.filter (otB i0 nd ⟨n0, c0, f0, t0⟩)).get x]) = _
      rw [inS_snoc, hq, hx]
      dsimp only
      rw [ha]
    have H5 := ac_sig N Pw L n p w hn hp hw hb ex no th hok S F ns nf hns hnf hS hbf hch hsp ne a1 nd (by omega) c1 f1 t1 (by omega) (by omega) a ha
    clear ha
    rw [hx, hq, hu]
    repeat' first | refine sdRW [0, 1, 2, 3, 4, 5, 6, 7, 8, 9, 10, 11, 12, 13, 14] H5 ?_ (hsub := by (repeat (first | exact SubM.nil | apply SubM.hole | (apply SubM.rw; rfl; (first | exact WkL.refl _ | exact WkL.ofEq (renL_map (fun _ => rfl) _).symm | exact WkL.ofEq (renL_flat _).symm | exact WkL.ofEq (ren_srcs hS (gOf_id rfl)).symm)) | (apply SubM.ro; rfl; (first | exact WkL.refl _ | exact WkL.ofEq (renL_map (fun _ => rfl) _).symm | exact WkL.ofEq (renL_flat _).symm | exact WkL.ofEq (ren_srcs hS (gOf_id rfl)).symm))))) | refine sd ?_ | refine sdl ?_ | refine sdb ?_ | refine rund_nil ?_ | refine Jx (id := 4) [0,0,0,0,14,31,63] 6 ?_ | refine aw_block ?_
    all_goals exact .inl ⟨rfl, fitsD [0, 1, 2, 3, 4, 5, 6, 7, 8, 9, 10, 11, 12, 13, 14, 15, 16, 17, 18, 19, 20] (h4 := (by (repeat (first | exact MemD.nil | apply MemD.hole | (apply MemD.blk; rfl; (first | exact WkL.refl _ | exact WkL.ofEq (renL_map (fun _ => rfl) _).symm | exact WkL.ofEq (renL_flat _).symm | exact WkL.ofEq (ren_srcs hS (gOf_id rfl)).symm); rfl))))), trivial⟩
  · intro _
    have hu : inS ex N Pw L F nd q0 ((List.finRange _).map fun x => (E.zipIdx.filter (otB i0 nd ⟨n0, c0, f0, t0⟩)).get x) = v := by
      rw [← hv]
      congr 1
      apply List.ext_getElem
      · simp
      · intro i h1 h2
        simp
    rw [hu]
    repeat' first | refine st ?_ | refine run_nil ?_ | refine Jz ?_ | refine Jw ?_ | refine aw_ret ?_
    all_goals exact pm_ret _ (renumD [0, 1, 2, 3, 4, 5, 6, 7, 8, 9, 10, 11, 12, 13, 14] (h4 := (by (repeat (first | exact MemD.nil | apply MemD.hole | (apply MemD.blk; rfl; (first | exact WkL.refl _ | exact WkL.ofEq (renL_map (fun _ => rfl) _).symm | exact WkL.ofEq (renL_flat _).symm | exact WkL.ofEq (ren_srcs hS (gOf_id rfl)).symm); rfl)))))) rfl
end Go.Proofs.YtdenooeaiicheaaGreat
namespace Go.Proofs.YtdenooeaiicheaaGreat
open Go Av
set_option maxRecDepth 20000
/-- An emission is received by a node. -/
def rcB (ex no th : Int) (N : List P2) (Pw : List Int) (L : List Wl) (S : List Sr) (F : List Fd) (E : List Em) (i0 : Nat) (e : Em) (nd : Nat) : Bool := frB E e nd && decide (inI ex N Pw L S F E i0 e nd ≤ mrgI (sgX ex N Pw L F nd e) th no)
set_option maxHeartbeats 32000000 in
theorem ac_rec (N : List P2) (Pw : List Int) (L : List Wl) (n p w : Nat) (hn : N.length = n) (hp : Pw.length = p) (hw : L.length = w) (hb : n ≤ 1000000 ∧ p ≤ 1000000 ∧ w ≤ 1000000) (ex no th : Int) (hok : siteB N Pw L ex no th = true) (S : List Sr) (F : List Fd) (ns nf : Nat) (hns : S.length = ns) (hnf : F.length = nf) (hS : S.length ≤ 8) (hbf : nf ≤ 1000000) (hch : chsL S) (hsp : spB S F = true) (E : List Em) (ne : Nat) (hne : E.length = ne) (hbe : ne ≤ 1000) (hem : emOK n E) (i0 : Nat) (n0 c0 f0 t0 : Int) (hq0 : E[i0]? = some ⟨n0, c0, f0, t0⟩) (nd : Nat) (hnd : nd < n) (v : Bool) (hv : rcB ex no th N Pw L S F E i0 ⟨n0, c0, f0, t0⟩ nd = v) :
    ACalls Tryz.prog 26 [.agg #[.slice (some ⟨0, 0, none⟩) n n, .slice (some ⟨1, 0, none⟩) p p, .slice (some ⟨2, 0, none⟩) w w, .int .i64 ex, .int .i64 no, .int .i64 th, .slice (some ⟨3, 0, none⟩) ns ns, .slice (some ⟨4, 0, none⟩) nf nf, .slice (some ⟨13, 0, none⟩) ne ne, .func (.func 66) #[] #[.pointer (some ⟨14, 0, none⟩)]], .int .i64 i0, .int .i64 nd] [some ⟨N.flatMap ptC, false, 1⟩, some ⟨List.map (Value.int .i64) Pw, false, 1⟩, some ⟨L.flatMap wlC, false, 1⟩, some ⟨srcs S, false, 1⟩, some ⟨F.flatMap fdC, false, 1⟩, chB S 0, chB S 1, chB S 2, chB S 3, chB S 4, chB S 5, chB S 6, chB S 7, some ⟨E.flatMap emC, false, 4⟩, some ⟨[.slice (some ⟨0, 0, none⟩) n n, .slice (some ⟨1, 0, none⟩) p p, .slice (some ⟨2, 0, none⟩) w w, .int .i64 ex, .int .i64 no, .int .i64 th], false, 1⟩] (.bool v) [none, none, none, none, none, none, none, none, none, none, none, none, none, none, none] := by
  have hi0 : i0 < ne := by rw [← hne]; exact (List.getElem?_eq_some_iff.1 hq0).1
  have he0 := hem _ (List.mem_of_getElem? hq0)
  dsimp only at he0
  obtain ⟨a0, rfl⟩ : ∃ a : Nat, n0 = a := ⟨n0.toNat, by omega⟩
  obtain ⟨x1, hx1⟩ : ∃ x, frB E ⟨a0, c0, f0, t0⟩ nd = x := ⟨_, rfl⟩
  obtain ⟨q, hq⟩ : ∃ x, sgX ex N Pw L F nd ⟨a0, c0, f0, t0⟩ = x := ⟨_, rfl⟩
  obtain ⟨i, hi⟩ : ∃ x, inI ex N Pw L S F E i0 ⟨a0, c0, f0, t0⟩ nd = x := ⟨_, rfl⟩
  have H1 := ac_free n p w ns nf ex no th E ne hne (by omega) i0 a0 c0 f0 t0 hq0 nd x1 hx1
  have H2 := ac_sig N Pw L n p w hn hp hw hb ex no th hok S F ns nf hns hnf hS hbf hch hsp ne a0 nd (by omega) c0 f0 t0 (by omega) (by omega) q hq
  have H3 := ac_intf N Pw L n p w hn hp hw hb ex no th hok S F ns nf hns hnf hS hbf hch hsp E ne hne hbe hem i0 a0 c0 f0 t0 hq0 nd hnd i hi
  unfold rcB at hv
  rw [hx1, hq, hi] at hv
  have H4 := ac_heard n p w ex no th q i _ rfl
  obtain ⟨x2, hx2⟩ : ∃ x, decide (i ≤ mrgI q th no) = x := ⟨_, rfl⟩
  rw [hx2] at hv H4
  clear he0 hx1 hq hi hx2
  cases x1
  · rw [Bool.false_and] at hv
    subst hv
    refine acalls_law Tryz.func26 rfl rfl rfl ?_
    repeat' first | refine st ?_ | refine sdRW [0, 1, 2, 3, 4, 5, 6, 7, 8, 9, 10, 11, 12, 13, 14] H1 ?_ (hsub := by (repeat (first | exact SubM.nil | apply SubM.hole | (apply SubM.rw; rfl; (first | exact WkL.refl _ | exact WkL.ofEq (renL_map (fun _ => rfl) _).symm | exact WkL.ofEq (renL_flat _).symm | exact WkL.ofEq (ren_srcs hS (gOf_id rfl)).symm)) | (apply SubM.ro; rfl; (first | exact WkL.refl _ | exact WkL.ofEq (renL_map (fun _ => rfl) _).symm | exact WkL.ofEq (renL_flat _).symm | exact WkL.ofEq (ren_srcs hS (gOf_id rfl)).symm))))) | refine stm ?_ | refine run_nil ?_ | refine sd ?_ | refine sdl ?_ | refine Jl ?_ | refine rund_nil ?_ | refine Jz ?_ | refine Jw ?_ | refine Jx (id := 1) [0,0,0,7,15,31,63,31,31,287,31,1823,3871,31,16287,31,31,31,262047,524287,1048575,2097151] 22 ?_ | refine aw_ret ?_ | refine pp_ret ?_
    all_goals first
      | rfl
      | (exfalso; omega)
      | (refine congrArg Value.bool ?_; first | exact decide_eq_true (by omega) | exact decide_eq_false (by omega) | exact (decide_eq_true (by omega)).symm | exact (decide_eq_false (by omega)).symm)
      | (show Value.bool _ = Value.bool _; congr 1; first | exact decide_eq_true (by omega) | exact decide_eq_false (by omega) | exact (decide_eq_true (by omega)).symm | exact (decide_eq_false (by omega)).symm)
      | (simp [retOf]; done)
  · rw [Bool.true_and] at hv
    subst hv
    refine acalls_law Tryz.func26 rfl rfl rfl ?_
    repeat' first | refine sdl (h := ok_load_rowsE (f := emC) (cs := [.int .i64 a0, .int .i64 c0, .int .i64 f0, .int .i64 t0]) i0 (fun _ => rfl) hq0 rfl rfl rfl rfl (by omega)) ?_ | refine st ?_ | refine sdRW [0, 1, 2, 3, 4, 5, 6, 7, 8, 9, 10, 11, 12, 13, 14] H1 ?_ (hsub := by (repeat (first | exact SubM.nil | apply SubM.hole | (apply SubM.rw; rfl; (first | exact WkL.refl _ | exact WkL.ofEq (renL_map (fun _ => rfl) _).symm | exact WkL.ofEq (renL_flat _).symm | exact WkL.ofEq (ren_srcs hS (gOf_id rfl)).symm)) | (apply SubM.ro; rfl; (first | exact WkL.refl _ | exact WkL.ofEq (renL_map (fun _ => rfl) _).symm | exact WkL.ofEq (renL_flat _).symm | exact WkL.ofEq (ren_srcs hS (gOf_id rfl)).symm))))) | refine sdRW [0, 1, 2, 3, 4, 5, 6, 7, 8, 9, 10, 11, 12, 13, 14] H2 ?_ (hsub := by (repeat (first | exact SubM.nil | apply SubM.hole | (apply SubM.rw; rfl; (first | exact WkL.refl _ | exact WkL.ofEq (renL_map (fun _ => rfl) _).symm | exact WkL.ofEq (renL_flat _).symm | exact WkL.ofEq (ren_srcs hS (gOf_id rfl)).symm)) | (apply SubM.ro; rfl; (first | exact WkL.refl _ | exact WkL.ofEq (renL_map (fun _ => rfl) _).symm | exact WkL.ofEq (renL_flat _).symm | exact WkL.ofEq (ren_srcs hS (gOf_id rfl)).symm))))) | refine sdRW [0, 1, 2, 3, 4, 5, 6, 7, 8, 9, 10, 11, 12, 13, 14] H3 ?_ (hsub := by (repeat (first | exact SubM.nil | apply SubM.hole | (apply SubM.rw; rfl; (first | exact WkL.refl _ | exact WkL.ofEq (renL_map (fun _ => rfl) _).symm | exact WkL.ofEq (renL_flat _).symm | exact WkL.ofEq (ren_srcs hS (gOf_id rfl)).symm)) | (apply SubM.ro; rfl; (first | exact WkL.refl _ | exact WkL.ofEq (renL_map (fun _ => rfl) _).symm | exact WkL.ofEq (renL_flat _).symm | exact WkL.ofEq (ren_srcs hS (gOf_id rfl)).symm))))) | refine sdRW [0, 1, 2, 14] H4 ?_ | refine stm ?_ | refine run_nil ?_ | refine sd ?_ | refine sdl ?_ | refine Jk ?_ | refine rund_nil ?_ | refine Jz ?_ | refine Jw ?_ | refine Jx (id := 1) [0,0,0,7,15,31,63,31,31,287,31,1823,3871,31,16287,31,31,31,262047,524287,1048575,2097151] 22 ?_ | refine aw_ret ?_ | refine pp_ret ?_
    all_goals first
      | rfl
      | (exfalso; omega)
      | (refine congrArg Value.bool ?_; first | exact decide_eq_true (by omega) | exact decide_eq_false (by omega) | exact (decide_eq_true (by omega)).symm | exact (decide_eq_false (by omega)).symm)
      | (show Value.bool _ = Value.bool _; congr 1; first | exact decide_eq_true (by omega) | exact decide_eq_false (by omega) | exact (decide_eq_true (by omega)).symm | exact (decide_eq_false (by omega)).symm)
      | (simp [retOf]; done)
end Go.Proofs.YtdenooeaiicheaaGreat
