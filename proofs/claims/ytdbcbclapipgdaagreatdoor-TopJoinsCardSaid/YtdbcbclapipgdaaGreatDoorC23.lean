/- Join: frames, the best of them; Join: Hear. -/
import Derived.Test.YtdbcbclapipgdaaGreatDoorVO
import Derived.Test.YtdbcbclapipgdaaGreatDoorJ
import Derived.Test.YtdbcbclapipgdaaGreatDoorC9
set_option linter.unusedVariables false
set_option linter.unusedSimpArgs false
namespace Go.Proofs.YtdbcbclapipgdaaGreatDoor
open Go Av
set_option maxRecDepth 20000
/-- Frames. -/
structure Fm where
  kd : Int
  sr : Int
  tg : Int
  li : Int
  sq : Int
  fl : Int
  nu : Int
  er : Int
  sx : Int
  rk : Int
  ep : Int
  dt : ByteArray
def fmC (f : Fm) : List Value := [.int .i64 f.kd, .int .i64 f.sr, .int .i64 f.tg, .int .i64 f.li, .int .i64 f.sq, .int .i64 f.fl, .int .i64 f.nu, .int .i64 f.er, .int .i64 f.sx, .int .i64 f.rk, .int .i64 f.ep, .string f.dt]
instance : RenF fmC := ⟨fun _ _ => rfl⟩
def isF (f : Fm) : Bool := isC f.kd f.sr f.tg f.li f.sq f.fl f.nu f.er f.sx f.rk f.ep
/-- A frame is a beacon whose offer is open. -/
def opF (f : Fm) : Bool := decide ((readO (isF f) f.dt).2 = 0) && (readO (isF f) f.dt).1.2.1
def btF (a b : Fm) : Bool := betC (isF a) (isF b) a.ep a.rk a.sr b.ep b.rk b.sr
/-- The best of the first frames. -/
def hrB (L : List Fm) : Nat → Int
  | 0 => -1
  | i + 1 => match L[i]? with
    | none => hrB L i
    | some f => if opF f = true ∧ (hrB L i < 0 ∨ (match L[(hrB L i).toNat]? with | some g => btF f g | none => false) = true) then i else hrB L i
theorem hrB_bd (L : List Fm) : ∀ i, -1 ≤ hrB L i ∧ hrB L i < i
  | 0 => ⟨by unfold hrB; omega, by unfold hrB; omega⟩
  | i + 1 => by
    have := hrB_bd L i
    unfold hrB
    split
    · omega
    · split
      · omega
      · omega
theorem hrB_no {L : List Fm} {i : Nat} {f : Fm} (h : L[i]? = some f) (ho : opF f = false) : hrB L (i + 1) = hrB L i := by
  show (match L[i]? with | none => _ | some f => _) = _
  rw [h]
  dsimp only
  rw [if_neg (by rw [ho]; simp)]
theorem hrB_first {L : List Fm} {i : Nat} {f : Fm} (h : L[i]? = some f) (ho : opF f = true) (hb : hrB L i < 0) : hrB L (i + 1) = i := by
  show (match L[i]? with | none => _ | some f => _) = _
  rw [h]
  dsimp only
  rw [if_pos ⟨ho, .inl hb⟩]
theorem hrB_bt {L : List Fm} {i b : Nat} {f g : Fm} (h : L[i]? = some f) (ho : opF f = true) (hb : hrB L i = b) (hg : L[b]? = some g) : hrB L (i + 1) = if btF f g = true then (i : Int) else b := by
  show (match L[i]? with | none => _ | some f => _) = _
  rw [h]
  dsimp only
  rw [hb, Int.toNat_natCast, hg]
  dsimp only
  by_cases hq : btF f g = true
  · rw [if_pos ⟨ho, .inr hq⟩, if_pos hq]
  · rw [if_neg (by rintro ⟨_, h | h⟩; omega; exact hq h), if_neg hq]
structure Hq where
  i : Nat
set_option maxHeartbeats 16000000 in
theorem j_no0 {Q : Exit → Slots → Mem → Prop} (nm sec : ByteArray) (sj pa ep nd no tr si : Int) (L : List Fm) (n i : Nat) (hn : L.length = n) (hnb : n ≤ 1000000) (hi : i < n) (kd sr tg li sq fl nu er sx rk eo : Int) (dt : ByteArray) (hq : L[i]? = some ⟨kd, sr, tg, li, sq, fl, nu, er, sx, rk, eo, dt⟩) (hds : dt.size ≤ 1000) (m1 : Int) (_u : Bool) (m3 : ByteArray) (m4 m5 m6 : Int) (m7 : List Int) (z : Int) (hres : readO (isC kd sr tg li sq fl nu er sx rk eo) dt = ((m1, false, m3, m4, m5, m6, m7), z)) (hnx : hrB L (i + 1) = hrB L i) (hz : z = 0) : AW Tryz.prog Tryz.f33.ntmps 1 (loopAt Tryz.f33 0) (ThenA (fun σ1 m1 => ∃ y : Hq, Fits 1 ([(1, .slice (some ⟨0, 0, none⟩) n n), (2, .pointer (some ⟨1, 0, none⟩)), (4, .pointer (some ⟨2, 0, none⟩)), (7, .int .i64 (hrB L y.i)), (18, .slice (some ⟨0, 0, none⟩) n n), (19, .int .i64 n), (20, .int .i64 y.i)]) ([some ⟨L.flatMap fmC, false, 12⟩, some ⟨[.string nm, .string sec, .int .i64 sj, .int .i64 pa, .int .i64 ep, .int .i64 nd, .int .i64 no, .int .i64 tr, .int .i64 si], true, 1⟩, some ⟨[.string ⟨#[]⟩, .string ⟨#[]⟩, .int .i64 0, .int .i64 0, .int .i64 0, .int .i64 0, .int .i64 0, .int .i64 0, .int .i64 0], true, 1⟩]) σ1 m1 ∧ y.i ≤ n ∧ n - y.i < n - i) Q) ([(1, .slice (some ⟨0, 0, none⟩) n n), (2, .pointer (some ⟨1, 0, none⟩)), (4, .pointer (some ⟨2, 0, none⟩)), (7, .int .i64 (hrB L i)), (18, .slice (some ⟨0, 0, none⟩) n n), (19, .int .i64 n), (20, .int .i64 i)]) ([some ⟨L.flatMap fmC, false, 12⟩, some ⟨[.string nm, .string sec, .int .i64 sj, .int .i64 pa, .int .i64 ep, .int .i64 nd, .int .i64 no, .int .i64 tr, .int .i64 si], true, 1⟩, some ⟨[.string ⟨#[]⟩, .string ⟨#[]⟩, .int .i64 0, .int .i64 0, .int .i64 0, .int .i64 0, .int .i64 0, .int .i64 0, .int .i64 0], true, 1⟩]) := by
  have hbd := hrB_bd L i
  obtain ⟨B, hB⟩ : ∃ B, hrB L i = B := ⟨_, rfl⟩
  rw [hB] at hbd hnx ⊢
  have HR := ac_read kd sr tg li sq fl nu er sx rk eo dt hds _ rfl (m1, false, m3, m4, m5, m6, m7) z _ hres rfl
  dsimp only at HR
  repeat' first | intro h1 | intro h1 | refine st (h := ok_load_rowsE (f := fmC) (cs := [.int .i64 kd, .int .i64 sr, .int .i64 tg, .int .i64 li, .int .i64 sq, .int .i64 fl, .int .i64 nu, .int .i64 er, .int .i64 sx, .int .i64 rk, .int .i64 eo, .string dt]) i (fun _ => rfl) hq rfl rfl rfl rfl (by omega)) ?_ | refine st ?_ | refine stMW [] HR ?_ | refine stm ?_ | refine run_nil ?_ | refine sd ?_ | refine sdl ?_ | refine Jk ?_ | refine Jl ?_ | refine Jm ?_ | refine Jn ?_ ?_ | refine rund_nil ?_ | refine Jz ?_ | refine Jw ?_ | refine Jx (id := 9) [0,1,3,7,15,31,63,127,255,511,1023,1023,1023,7167,15359,32767,65535,131071] 18 ?_ | refine aw_block ?_ | refine Jr ?_ | refine Js ?_ | refine Jy ?_
  all_goals first | exact Exists.intro ⟨i + 1⟩ ⟨(by (dsimp only; rw [hnx]; exact fitsD [0, 1, 2])), hi, by dsimp only; omega⟩
set_option maxHeartbeats 16000000 in
theorem j_no1 {Q : Exit → Slots → Mem → Prop} (nm sec : ByteArray) (sj pa ep nd no tr si : Int) (L : List Fm) (n i : Nat) (hn : L.length = n) (hnb : n ≤ 1000000) (hi : i < n) (kd sr tg li sq fl nu er sx rk eo : Int) (dt : ByteArray) (hq : L[i]? = some ⟨kd, sr, tg, li, sq, fl, nu, er, sx, rk, eo, dt⟩) (hds : dt.size ≤ 1000) (m1 : Int) (op : Bool) (m3 : ByteArray) (m4 m5 m6 : Int) (m7 : List Int) (z : Int) (hres : readO (isC kd sr tg li sq fl nu er sx rk eo) dt = ((m1, op, m3, m4, m5, m6, m7), z)) (hnx : hrB L (i + 1) = hrB L i) (hz : z ≠ 0) : AW Tryz.prog Tryz.f33.ntmps 1 (loopAt Tryz.f33 0) (ThenA (fun σ1 m1 => ∃ y : Hq, Fits 1 ([(1, .slice (some ⟨0, 0, none⟩) n n), (2, .pointer (some ⟨1, 0, none⟩)), (4, .pointer (some ⟨2, 0, none⟩)), (7, .int .i64 (hrB L y.i)), (18, .slice (some ⟨0, 0, none⟩) n n), (19, .int .i64 n), (20, .int .i64 y.i)]) ([some ⟨L.flatMap fmC, false, 12⟩, some ⟨[.string nm, .string sec, .int .i64 sj, .int .i64 pa, .int .i64 ep, .int .i64 nd, .int .i64 no, .int .i64 tr, .int .i64 si], true, 1⟩, some ⟨[.string ⟨#[]⟩, .string ⟨#[]⟩, .int .i64 0, .int .i64 0, .int .i64 0, .int .i64 0, .int .i64 0, .int .i64 0, .int .i64 0], true, 1⟩]) σ1 m1 ∧ y.i ≤ n ∧ n - y.i < n - i) Q) ([(1, .slice (some ⟨0, 0, none⟩) n n), (2, .pointer (some ⟨1, 0, none⟩)), (4, .pointer (some ⟨2, 0, none⟩)), (7, .int .i64 (hrB L i)), (18, .slice (some ⟨0, 0, none⟩) n n), (19, .int .i64 n), (20, .int .i64 i)]) ([some ⟨L.flatMap fmC, false, 12⟩, some ⟨[.string nm, .string sec, .int .i64 sj, .int .i64 pa, .int .i64 ep, .int .i64 nd, .int .i64 no, .int .i64 tr, .int .i64 si], true, 1⟩, some ⟨[.string ⟨#[]⟩, .string ⟨#[]⟩, .int .i64 0, .int .i64 0, .int .i64 0, .int .i64 0, .int .i64 0, .int .i64 0, .int .i64 0], true, 1⟩]) := by
  have hbd := hrB_bd L i
  obtain ⟨B, hB⟩ : ∃ B, hrB L i = B := ⟨_, rfl⟩
  rw [hB] at hbd hnx ⊢
  have HR := ac_read kd sr tg li sq fl nu er sx rk eo dt hds _ rfl (m1, op, m3, m4, m5, m6, m7) z _ hres rfl
  dsimp only at HR
  repeat' first | intro h1 | intro h1 | refine st (h := ok_load_rowsE (f := fmC) (cs := [.int .i64 kd, .int .i64 sr, .int .i64 tg, .int .i64 li, .int .i64 sq, .int .i64 fl, .int .i64 nu, .int .i64 er, .int .i64 sx, .int .i64 rk, .int .i64 eo, .string dt]) i (fun _ => rfl) hq rfl rfl rfl rfl (by omega)) ?_ | refine sdl (h := ok_load_rowsE (f := fmC) (cs := [.int .i64 kd, .int .i64 sr, .int .i64 tg, .int .i64 li, .int .i64 sq, .int .i64 fl, .int .i64 nu, .int .i64 er, .int .i64 sx, .int .i64 rk, .int .i64 eo, .string dt]) i (fun _ => rfl) hq rfl rfl rfl rfl (by omega)) ?_ | refine st ?_ | refine stMW [] HR ?_ | refine stm ?_ | refine run_nil ?_ | refine sd ?_ | refine sdl ?_ | refine Jk ?_ | refine Jl ?_ | refine Jm ?_ | refine Jn ?_ ?_ | refine Jo ?_ ?_ | refine Jp ?_ ?_ | refine rund_nil ?_ | refine Jz ?_ | refine Jw ?_ | refine Jx (id := 9) [0,1,3,7,15,31,63,127,255,511,1023,1023,1023,7167,15359,32767,65535,131071] 18 ?_ | refine aw_block ?_ | refine Jq ?_ | refine Jr ?_ | refine Js ?_ | refine Jy ?_
  all_goals first | exact Exists.intro ⟨i + 1⟩ ⟨(by (dsimp only; rw [hnx]; exact fitsD [0, 1, 2])), hi, by dsimp only; omega⟩ | (exfalso; omega)
set_option maxHeartbeats 16000000 in
theorem j_fst {Q : Exit → Slots → Mem → Prop} (nm sec : ByteArray) (sj pa ep nd no tr si : Int) (L : List Fm) (n i : Nat) (hn : L.length = n) (hnb : n ≤ 1000000) (hi : i < n) (kd sr tg li sq fl nu er sx rk eo : Int) (dt : ByteArray) (hq : L[i]? = some ⟨kd, sr, tg, li, sq, fl, nu, er, sx, rk, eo, dt⟩) (hds : dt.size ≤ 1000) (m1 : Int) (_u : Bool) (m3 : ByteArray) (m4 m5 m6 : Int) (m7 : List Int) (z : Int) (hres : readO (isC kd sr tg li sq fl nu er sx rk eo) dt = ((m1, true, m3, m4, m5, m6, m7), z)) (hnx : hrB L (i + 1) = i) (hz : z = 0) (hb0 : hrB L i < 0) : AW Tryz.prog Tryz.f33.ntmps 1 (loopAt Tryz.f33 0) (ThenA (fun σ1 m1 => ∃ y : Hq, Fits 1 ([(1, .slice (some ⟨0, 0, none⟩) n n), (2, .pointer (some ⟨1, 0, none⟩)), (4, .pointer (some ⟨2, 0, none⟩)), (7, .int .i64 (hrB L y.i)), (18, .slice (some ⟨0, 0, none⟩) n n), (19, .int .i64 n), (20, .int .i64 y.i)]) ([some ⟨L.flatMap fmC, false, 12⟩, some ⟨[.string nm, .string sec, .int .i64 sj, .int .i64 pa, .int .i64 ep, .int .i64 nd, .int .i64 no, .int .i64 tr, .int .i64 si], true, 1⟩, some ⟨[.string ⟨#[]⟩, .string ⟨#[]⟩, .int .i64 0, .int .i64 0, .int .i64 0, .int .i64 0, .int .i64 0, .int .i64 0, .int .i64 0], true, 1⟩]) σ1 m1 ∧ y.i ≤ n ∧ n - y.i < n - i) Q) ([(1, .slice (some ⟨0, 0, none⟩) n n), (2, .pointer (some ⟨1, 0, none⟩)), (4, .pointer (some ⟨2, 0, none⟩)), (7, .int .i64 (hrB L i)), (18, .slice (some ⟨0, 0, none⟩) n n), (19, .int .i64 n), (20, .int .i64 i)]) ([some ⟨L.flatMap fmC, false, 12⟩, some ⟨[.string nm, .string sec, .int .i64 sj, .int .i64 pa, .int .i64 ep, .int .i64 nd, .int .i64 no, .int .i64 tr, .int .i64 si], true, 1⟩, some ⟨[.string ⟨#[]⟩, .string ⟨#[]⟩, .int .i64 0, .int .i64 0, .int .i64 0, .int .i64 0, .int .i64 0, .int .i64 0, .int .i64 0], true, 1⟩]) := by
  have hbd := hrB_bd L i
  obtain ⟨B, hB⟩ : ∃ B, hrB L i = B := ⟨_, rfl⟩
  rw [hB] at hbd hb0 ⊢
  have HR := ac_read kd sr tg li sq fl nu er sx rk eo dt hds _ rfl (m1, true, m3, m4, m5, m6, m7) z _ hres rfl
  dsimp only at HR
  subst hz
  repeat' first | intro h1 | intro h1 | refine st (h := ok_load_rowsE (f := fmC) (cs := [.int .i64 kd, .int .i64 sr, .int .i64 tg, .int .i64 li, .int .i64 sq, .int .i64 fl, .int .i64 nu, .int .i64 er, .int .i64 sx, .int .i64 rk, .int .i64 eo, .string dt]) i (fun _ => rfl) hq rfl rfl rfl rfl (by omega)) ?_ | refine sdl (h := ok_load_rowsE (f := fmC) (cs := [.int .i64 kd, .int .i64 sr, .int .i64 tg, .int .i64 li, .int .i64 sq, .int .i64 fl, .int .i64 nu, .int .i64 er, .int .i64 sx, .int .i64 rk, .int .i64 eo, .string dt]) i (fun _ => rfl) hq rfl rfl rfl rfl (by omega)) ?_ | refine st ?_ | refine stMW [] HR ?_ | refine stm ?_ | refine run_nil ?_ | refine sd ?_ | refine sdl ?_ | refine Jk ?_ | refine Jl ?_ | refine Jo ?_ ?_ | refine rund_nil ?_ | refine Jz ?_ | refine Jw ?_ | refine Jx (id := 9) [0,1,3,7,15,31,63,127,255,511,1023,1023,1023,7167,15359,32767,65535,131071] 18 ?_ | refine aw_block ?_ | refine Jq ?_ | refine Js ?_ | refine Jy ?_
  all_goals first | exact Exists.intro ⟨i + 1⟩ ⟨(by (dsimp only; rw [hnx]; exact fitsD [0, 1, 2])), hi, by dsimp only; omega⟩ | (exfalso; omega)
set_option maxHeartbeats 16000000 in
theorem j_bt0 {Q : Exit → Slots → Mem → Prop} (nm sec : ByteArray) (sj pa ep nd no tr si : Int) (L : List Fm) (n i : Nat) (hn : L.length = n) (hnb : n ≤ 1000000) (hi : i < n) (kd sr tg li sq fl nu er sx rk eo : Int) (dt : ByteArray) (hq : L[i]? = some ⟨kd, sr, tg, li, sq, fl, nu, er, sx, rk, eo, dt⟩) (hds : dt.size ≤ 1000) (m1 : Int) (_u : Bool) (m3 : ByteArray) (m4 m5 m6 : Int) (m7 : List Int) (z : Int) (hres : readO (isC kd sr tg li sq fl nu er sx rk eo) dt = ((m1, true, m3, m4, m5, m6, m7), z)) (b : Nat) (hb : hrB L i = b) (kd' sr' tg' li' sq' fl' nu' er' sx' rk' eo' : Int) (dt' : ByteArray) (hg : L[b]? = some ⟨kd', sr', tg', li', sq', fl', nu', er', sx', rk', eo', dt'⟩) (hnx : hrB L (i + 1) = (b : Nat)) (hz : z = 0) (hv : betC (isC kd sr tg li sq fl nu er sx rk eo) (isC kd' sr' tg' li' sq' fl' nu' er' sx' rk' eo') eo rk sr eo' rk' sr' = false) : AW Tryz.prog Tryz.f33.ntmps 1 (loopAt Tryz.f33 0) (ThenA (fun σ1 m1 => ∃ y : Hq, Fits 1 ([(1, .slice (some ⟨0, 0, none⟩) n n), (2, .pointer (some ⟨1, 0, none⟩)), (4, .pointer (some ⟨2, 0, none⟩)), (7, .int .i64 (hrB L y.i)), (18, .slice (some ⟨0, 0, none⟩) n n), (19, .int .i64 n), (20, .int .i64 y.i)]) ([some ⟨L.flatMap fmC, false, 12⟩, some ⟨[.string nm, .string sec, .int .i64 sj, .int .i64 pa, .int .i64 ep, .int .i64 nd, .int .i64 no, .int .i64 tr, .int .i64 si], true, 1⟩, some ⟨[.string ⟨#[]⟩, .string ⟨#[]⟩, .int .i64 0, .int .i64 0, .int .i64 0, .int .i64 0, .int .i64 0, .int .i64 0, .int .i64 0], true, 1⟩]) σ1 m1 ∧ y.i ≤ n ∧ n - y.i < n - i) Q) ([(1, .slice (some ⟨0, 0, none⟩) n n), (2, .pointer (some ⟨1, 0, none⟩)), (4, .pointer (some ⟨2, 0, none⟩)), (7, .int .i64 (hrB L i)), (18, .slice (some ⟨0, 0, none⟩) n n), (19, .int .i64 n), (20, .int .i64 i)]) ([some ⟨L.flatMap fmC, false, 12⟩, some ⟨[.string nm, .string sec, .int .i64 sj, .int .i64 pa, .int .i64 ep, .int .i64 nd, .int .i64 no, .int .i64 tr, .int .i64 si], true, 1⟩, some ⟨[.string ⟨#[]⟩, .string ⟨#[]⟩, .int .i64 0, .int .i64 0, .int .i64 0, .int .i64 0, .int .i64 0, .int .i64 0, .int .i64 0], true, 1⟩]) := by
  have hbd := hrB_bd L i
  rw [hb] at hbd ⊢
  have HR := ac_read kd sr tg li sq fl nu er sx rk eo dt hds _ rfl (m1, true, m3, m4, m5, m6, m7) z _ hres rfl
  dsimp only at HR
  subst hz
  have HB := ac_better kd sr tg li sq fl nu er sx rk eo dt kd' sr' tg' li' sq' fl' nu' er' sx' rk' eo' dt' _ _ _ rfl rfl rfl
  rw [hv] at HB
  repeat' first | refine st (h := ok_load_rowsE (f := fmC) (cs := [.int .i64 kd, .int .i64 sr, .int .i64 tg, .int .i64 li, .int .i64 sq, .int .i64 fl, .int .i64 nu, .int .i64 er, .int .i64 sx, .int .i64 rk, .int .i64 eo, .string dt]) i (fun _ => rfl) hq rfl rfl rfl rfl (by omega)) ?_ | refine sdl (h := ok_load_rowsE (f := fmC) (cs := [.int .i64 kd', .int .i64 sr', .int .i64 tg', .int .i64 li', .int .i64 sq', .int .i64 fl', .int .i64 nu', .int .i64 er', .int .i64 sx', .int .i64 rk', .int .i64 eo', .string dt']) b (fun _ => rfl) hg rfl rfl rfl rfl (by omega)) ?_ | refine st ?_ | refine stMW [] HR ?_ | refine sd_call (HB) ?_ | refine stm ?_ | refine run_nil ?_ | refine sd ?_ | refine sdl ?_ | refine Jk ?_ | refine rund_nil ?_ | refine Jz ?_ | refine Jw ?_ | refine Jx (id := 9) [0,1,3,7,15,31,63,127,255,511,1023,1023,1023,7167,15359,32767,65535,131071] 18 ?_ | refine aw_block ?_ | refine Jr ?_ | refine Js ?_ | refine Jy ?_
  all_goals first | exact Exists.intro ⟨i + 1⟩ ⟨(by (dsimp only; rw [hnx]; exact fitsD [0, 1, 2])), hi, by dsimp only; omega⟩
set_option maxHeartbeats 16000000 in
theorem j_bt1 {Q : Exit → Slots → Mem → Prop} (nm sec : ByteArray) (sj pa ep nd no tr si : Int) (L : List Fm) (n i : Nat) (hn : L.length = n) (hnb : n ≤ 1000000) (hi : i < n) (kd sr tg li sq fl nu er sx rk eo : Int) (dt : ByteArray) (hq : L[i]? = some ⟨kd, sr, tg, li, sq, fl, nu, er, sx, rk, eo, dt⟩) (hds : dt.size ≤ 1000) (m1 : Int) (_u : Bool) (m3 : ByteArray) (m4 m5 m6 : Int) (m7 : List Int) (z : Int) (hres : readO (isC kd sr tg li sq fl nu er sx rk eo) dt = ((m1, true, m3, m4, m5, m6, m7), z)) (b : Nat) (hb : hrB L i = b) (kd' sr' tg' li' sq' fl' nu' er' sx' rk' eo' : Int) (dt' : ByteArray) (hg : L[b]? = some ⟨kd', sr', tg', li', sq', fl', nu', er', sx', rk', eo', dt'⟩) (hnx : hrB L (i + 1) = (i : Nat)) (hz : z = 0) (hv : betC (isC kd sr tg li sq fl nu er sx rk eo) (isC kd' sr' tg' li' sq' fl' nu' er' sx' rk' eo') eo rk sr eo' rk' sr' = true) : AW Tryz.prog Tryz.f33.ntmps 1 (loopAt Tryz.f33 0) (ThenA (fun σ1 m1 => ∃ y : Hq, Fits 1 ([(1, .slice (some ⟨0, 0, none⟩) n n), (2, .pointer (some ⟨1, 0, none⟩)), (4, .pointer (some ⟨2, 0, none⟩)), (7, .int .i64 (hrB L y.i)), (18, .slice (some ⟨0, 0, none⟩) n n), (19, .int .i64 n), (20, .int .i64 y.i)]) ([some ⟨L.flatMap fmC, false, 12⟩, some ⟨[.string nm, .string sec, .int .i64 sj, .int .i64 pa, .int .i64 ep, .int .i64 nd, .int .i64 no, .int .i64 tr, .int .i64 si], true, 1⟩, some ⟨[.string ⟨#[]⟩, .string ⟨#[]⟩, .int .i64 0, .int .i64 0, .int .i64 0, .int .i64 0, .int .i64 0, .int .i64 0, .int .i64 0], true, 1⟩]) σ1 m1 ∧ y.i ≤ n ∧ n - y.i < n - i) Q) ([(1, .slice (some ⟨0, 0, none⟩) n n), (2, .pointer (some ⟨1, 0, none⟩)), (4, .pointer (some ⟨2, 0, none⟩)), (7, .int .i64 (hrB L i)), (18, .slice (some ⟨0, 0, none⟩) n n), (19, .int .i64 n), (20, .int .i64 i)]) ([some ⟨L.flatMap fmC, false, 12⟩, some ⟨[.string nm, .string sec, .int .i64 sj, .int .i64 pa, .int .i64 ep, .int .i64 nd, .int .i64 no, .int .i64 tr, .int .i64 si], true, 1⟩, some ⟨[.string ⟨#[]⟩, .string ⟨#[]⟩, .int .i64 0, .int .i64 0, .int .i64 0, .int .i64 0, .int .i64 0, .int .i64 0, .int .i64 0], true, 1⟩]) := by
  have hbd := hrB_bd L i
  rw [hb] at hbd ⊢
  have HR := ac_read kd sr tg li sq fl nu er sx rk eo dt hds _ rfl (m1, true, m3, m4, m5, m6, m7) z _ hres rfl
  dsimp only at HR
  subst hz
  have HB := ac_better kd sr tg li sq fl nu er sx rk eo dt kd' sr' tg' li' sq' fl' nu' er' sx' rk' eo' dt' _ _ _ rfl rfl rfl
  rw [hv] at HB
  repeat' first | refine st (h := ok_load_rowsE (f := fmC) (cs := [.int .i64 kd, .int .i64 sr, .int .i64 tg, .int .i64 li, .int .i64 sq, .int .i64 fl, .int .i64 nu, .int .i64 er, .int .i64 sx, .int .i64 rk, .int .i64 eo, .string dt]) i (fun _ => rfl) hq rfl rfl rfl rfl (by omega)) ?_ | refine sdl (h := ok_load_rowsE (f := fmC) (cs := [.int .i64 kd', .int .i64 sr', .int .i64 tg', .int .i64 li', .int .i64 sq', .int .i64 fl', .int .i64 nu', .int .i64 er', .int .i64 sx', .int .i64 rk', .int .i64 eo', .string dt']) b (fun _ => rfl) hg rfl rfl rfl rfl (by omega)) ?_ | refine st ?_ | refine stMW [] HR ?_ | refine sd_call (HB) ?_ | refine stm ?_ | refine run_nil ?_ | refine sd ?_ | refine sdl ?_ | refine Jk ?_ | refine rund_nil ?_ | refine Jz ?_ | refine Jw ?_ | refine Jx (id := 9) [0,1,3,7,15,31,63,127,255,511,1023,1023,1023,7167,15359,32767,65535,131071] 18 ?_ | refine aw_block ?_ | refine Jq ?_ | refine Js ?_ | refine Jy ?_
  all_goals first | exact Exists.intro ⟨i + 1⟩ ⟨(by (dsimp only; rw [hnx]; exact fitsD [0, 1, 2])), hi, by dsimp only; omega⟩
end Go.Proofs.YtdbcbclapipgdaaGreatDoor
