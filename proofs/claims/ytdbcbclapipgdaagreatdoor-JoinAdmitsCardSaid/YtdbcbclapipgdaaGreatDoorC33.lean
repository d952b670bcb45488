/- Join: frames, the best of them; Join: Hear; Join: members compared and few. -/
import Derived.Test.YtdbcbclapipgdaaGreatDoorVO
import Derived.Test.YtdbcbclapipgdaaGreatDoorJ
import Derived.Test.YtdbcbclapipgdaaGreatDoorC13
import Derived.Test.YtdbcbclapipgdaaGreatDoorC29
set_option linter.unusedVariables false
set_option linter.unusedSimpArgs false
namespace Go.Proofs.YtdbcbclapipgdaaGreatDoor
open Go Av
set_option maxRecDepth 20000
/-- Frames. -/
structure Fm where
  kd : Int
  sr : Int
  tg : Int
  li : Int
  sq : Int
  fl : Int
  nu : Int
  er : Int
  sx : Int
  rk : Int
  ep : Int
  dt : ByteArray
def fmC (f : Fm) : List Value := [.int .i64 f.kd, .int .i64 f.sr, .int .i64 f.tg, .int .i64 f.li, .int .i64 f.sq, .int .i64 f.fl, .int .i64 f.nu, .int .i64 f.er, .int .i64 f.sx, .int .i64 f.rk, .int .i64 f.ep, .string f.dt]
instance : RenF fmC := ⟨fun _ _ => rfl⟩
def isF (f : Fm) : Bool := isC f.kd f.sr f.tg f.li f.sq f.fl f.nu f.er f.sx f.rk f.ep
/-- A frame is a beacon whose offer is open. -/
def opF (f : Fm) : Bool := decide ((readO (isF f) f.dt).2 = 0) && (readO (isF f) f.dt).1.2.1
def btF (a b : Fm) : Bool := betC (isF a) (isF b) a.ep a.rk a.sr b.ep b.rk b.sr
/-- The best of the first frames. -/
def hrB (L : List Fm) : Nat → Int
  | 0 => -1
  | i + 1 => match L[i]? with
    | none => hrB L i
    | some f => if opF f = true ∧ (hrB L i < 0 ∨ (match L[(hrB L i).toNat]? with | some g => btF f g | none => false) = true) then i else hrB L i
theorem hrB_bd (L : List Fm) : ∀ i, -1 ≤ hrB L i ∧ hrB L i < i
  | 0 => ⟨by unfold hrB; omega, by unfold hrB; omega⟩
  | i + 1 => by
    have := hrB_bd L i
    unfold hrB
    split
    · omega
    · split
      · omega
      · omega
theorem hrB_no {L : List Fm} {i : Nat} {f : Fm} (h : L[i]? = some f) (ho : opF f = false) : hrB L (i + 1) = hrB L i := by
  show (match L[i]? with | none => _ | some f => _) = _
  rw [h]
  dsimp only
  rw [if_neg (by rw [ho]; simp)]
theorem hrB_first {L : List Fm} {i : Nat} {f : Fm} (h : L[i]? = some f) (ho : opF f = true) (hb : hrB L i < 0) : hrB L (i + 1) = i := by
  show (match L[i]? with | none => _ | some f => _) = _
  rw [h]
  dsimp only
  rw [if_pos ⟨ho, .inl hb⟩]
theorem hrB_bt {L : List Fm} {i b : Nat} {f g : Fm} (h : L[i]? = some f) (ho : opF f = true) (hb : hrB L i = b) (hg : L[b]? = some g) : hrB L (i + 1) = if btF f g = true then (i : Int) else b := by
  show (match L[i]? with | none => _ | some f => _) = _
  rw [h]
  dsimp only
  rw [hb, Int.toNat_natCast, hg]
  dsimp only
  by_cases hq : btF f g = true
  · rw [if_pos ⟨ho, .inr hq⟩, if_pos hq]
  · rw [if_neg (by rintro ⟨_, h | h⟩; omega; exact hq h), if_neg hq]
structure Hq where
  i : Nat
set_option maxHeartbeats 16000000 in
theorem j_no0 {Q : Exit → Slots → Mem → Prop} (nm sec : ByteArray) (sj pa ep nd no tr si : Int) (L : List Fm) (n i : Nat) (hn : L.length = n) (hnb : n ≤ 1000000) (hi : i < n) (kd sr tg li sq fl nu er sx rk eo : Int) (dt : ByteArray) (hq : L[i]? = some ⟨kd, sr, tg, li, sq, fl, nu, er, sx, rk, eo, dt⟩) (hds : dt.size ≤ 1000) (m1 : Int) (_u : Bool) (m3 : ByteArray) (m4 m5 m6 : Int) (m7 : List Int) (z : Int) (hres : readO (isC kd sr tg li sq fl nu er sx rk eo) dt = ((m1, false, m3, m4, m5, m6, m7), z)) (hnx : hrB L (i + 1) = hrB L i) (hz : z = 0) : AW Tryz.prog Tryz.f33.ntmps 1 (loopAt Tryz.f33 0) (ThenA (fun σ1 m1 => ∃ y : Hq, Fits 1 ([(1, .slice (some ⟨0, 0, none⟩) n n), (2, .pointer (some ⟨1, 0, none⟩)), (4, .pointer (some ⟨2, 0, none⟩)), (7, .int .i64 (hrB L y.i)), (18, .slice (some ⟨0, 0, none⟩) n n), (19, .int .i64 n), (20, .int .i64 y.i)]) ([some ⟨L.flatMap fmC, false, 12⟩, some ⟨[.string nm, .string sec, .int .i64 sj, .int .i64 pa, .int .i64 ep, .int .i64 nd, .int .i64 no, .int .i64 tr, .int .i64 si], true, 1⟩, some ⟨[.string ⟨#[]⟩, .string ⟨#[]⟩, .int .i64 0, .int .i64 0, .int .i64 0, .int .i64 0, .int .i64 0, .int .i64 0, .int .i64 0], true, 1⟩]) σ1 m1 ∧ y.i ≤ n ∧ n - y.i < n - i) Q) ([(1, .slice (some ⟨0, 0, none⟩) n n), (2, .pointer (some ⟨1, 0, none⟩)), (4, .pointer (some ⟨2, 0, none⟩)), (7, .int .i64 (hrB L i)), (18, .slice (some ⟨0, 0, none⟩) n n), (19, .int .i64 n), (20, .int .i64 i)]) ([some ⟨L.flatMap fmC, false, 12⟩, some ⟨[.string nm, .string sec, .int .i64 sj, .int .i64 pa, .int .i64 ep, .int .i64 nd, .int .i64 no, .int .i64 tr, .int .i64 si], true, 1⟩, some ⟨[.string ⟨#[]⟩, .string ⟨#[]⟩, .int .i64 0, .int .i64 0, .int .i64 0, .int .i64 0, .int .i64 0, .int .i64 0, .int .i64 0], true, 1⟩]) := by
  have hbd := hrB_bd L i
  obtain ⟨B, hB⟩ : ∃ B, hrB L i = B := ⟨_, rfl⟩
  rw [hB] at hbd hnx ⊢
  have HR := ac_read kd sr tg li sq fl nu er sx rk eo dt hds _ rfl (m1, false, m3, m4, m5, m6, m7) z _ hres rfl
  dsimp only at HR
  repeat' first | intro h1 | intro h1 | refine st (h := ok_load_rowsE (f := fmC) (cs := [.int .i64 kd, .int .i64 sr, .int .i64 tg, .int .i64 li, .int .i64 sq, .int .i64 fl, .int .i64 nu, .int .i64 er, .int .i64 sx, .int .i64 rk, .int .i64 eo, .string dt]) i (fun _ => rfl) hq rfl rfl rfl rfl (by omega)) ?_ | refine sdl (h := ok_load_rowsE (f := fmC) (cs := [.int .i64 kd, .int .i64 sr, .int .i64 tg, .int .i64 li, .int .i64 sq, .int .i64 fl, .int .i64 nu, .int .i64 er, .int .i64 sx, .int .i64 rk, .int .i64 eo, .string dt]) i (fun _ => rfl) hq rfl rfl rfl rfl (by omega)) ?_ | refine st ?_ | refine stMW [] HR ?_ | refine stm ?_ | refine Ja ?_ | refine Jb ?_ | refine Jc ?_ | refine Jd ?_ | refine Je ?_ | refine Jf ?_ | refine Jg ?_ | refine Jh ?_ ?_ | refine Ji ?_ ?_ | refine Jj ?_ ?_ | refine run_nil ?_ | refine sd ?_ | refine sdl ?_ | refine sdm (n := 1) ?_ | refine sdm ?_ | refine sdb ?_ | refine Jk ?_ | refine Jl ?_ | refine Jm ?_ | refine Jn ?_ ?_ | refine Jo ?_ ?_ | refine Jp ?_ ?_ | refine rund_nil ?_ | refine Jz ?_ | refine Jw ?_ | refine Jx (id := 9) [0,1,3,7,15,31,63,127,255,511,1023,1023,1023,7167,15359,32767,65535,131071] 18 ?_ | refine Jx (id := 14) [0,0,3,7,15,0,0,96,224,480,0,1024,3103,7199,16383,32767] 11 ?_ | refine aw_block ?_ | refine Jq ?_ | refine Jr ?_ | refine Js ?_ | refine Jt ?_ | refine Ju ?_ ?_ | refine Jv ?_ ?_ | refine Jy ?_ | refine aw_exit ?_ | refine aw_ret ?_ | refine pp_ret ?_ | refine pp_normal ?_
  all_goals first | exact Exists.intro ⟨i + 1⟩ ⟨(by (dsimp only; rw [hnx]; exact fitsD [0, 1, 2])), hi, by dsimp only; omega⟩ | (exfalso; omega)
set_option maxHeartbeats 16000000 in
theorem j_no1 {Q : Exit → Slots → Mem → Prop} (nm sec : ByteArray) (sj pa ep nd no tr si : Int) (L : List Fm) (n i : Nat) (hn : L.length = n) (hnb : n ≤ 1000000) (hi : i < n) (kd sr tg li sq fl nu er sx rk eo : Int) (dt : ByteArray) (hq : L[i]? = some ⟨kd, sr, tg, li, sq, fl, nu, er, sx, rk, eo, dt⟩) (hds : dt.size ≤ 1000) (m1 : Int) (op : Bool) (m3 : ByteArray) (m4 m5 m6 : Int) (m7 : List Int) (z : Int) (hres : readO (isC kd sr tg li sq fl nu er sx rk eo) dt = ((m1, op, m3, m4, m5, m6, m7), z)) (hnx : hrB L (i + 1) = hrB L i) (hz : z ≠ 0) : AW Tryz.prog Tryz.f33.ntmps 1 (loopAt Tryz.f33 0) (ThenA (fun σ1 m1 => ∃ y : Hq, Fits 1 ([(1, .slice (some ⟨0, 0, none⟩) n n), (2, .pointer (some ⟨1, 0, none⟩)), (4, .pointer (some ⟨2, 0, none⟩)), (7, .int .i64 (hrB L y.i)), (18, .slice (some ⟨0, 0, none⟩) n n), (19, .int .i64 n), (20, .int .i64 y.i)]) ([some ⟨L.flatMap fmC, false, 12⟩, some ⟨[.string nm, .string sec, .int .i64 sj, .int .i64 pa, .int .i64 ep, .int .i64 nd, .int .i64 no, .int .i64 tr, .int .i64 si], true, 1⟩, some ⟨[.string ⟨#[]⟩, .string ⟨#[]⟩, .int .i64 0, .int .i64 0, .int .i64 0, .int .i64 0, .int .i64 0, .int .i64 0, .int .i64 0], true, 1⟩]) σ1 m1 ∧ y.i ≤ n ∧ n - y.i < n - i) Q) ([(1, .slice (some ⟨0, 0, none⟩) n n), (2, .pointer (some ⟨1, 0, none⟩)), (4, .pointer (some ⟨2, 0, none⟩)), (7, .int .i64 (hrB L i)), (18, .slice (some ⟨0, 0, none⟩) n n), (19, .int .i64 n), (20, .int .i64 i)]) ([some ⟨L.flatMap fmC, false, 12⟩, some ⟨[.string nm, .string sec, .int .i64 sj, .int .i64 pa, .int .i64 ep, .int .i64 nd, .int .i64 no, .int .i64 tr, .int .i64 si], true, 1⟩, some ⟨[.string ⟨#[]⟩, .string ⟨#[]⟩, .int .i64 0, .int .i64 0, .int .i64 0, .int .i64 0, .int .i64 0, .int .i64 0, .int .i64 0], true, 1⟩]) := by
  have hbd := hrB_bd L i
  obtain ⟨B, hB⟩ : ∃ B, hrB L i = B := ⟨_, rfl⟩
  rw [hB] at hbd hnx ⊢
  have HR := ac_read kd sr tg li sq fl nu er sx rk eo dt hds _ rfl (m1, op, m3, m4, m5, m6, m7) z _ hres rfl
  dsimp only at HR
  repeat' first | intro h1 | intro h1 | refine st (h := ok_load_rowsE (f := fmC) (cs := [.int .i64 kd, .int .i64 sr, .int .i64 tg, .int .i64 li, .int .i64 sq, .int .i64 fl, .int .i64 nu, .int .i64 er, .int .i64 sx, .int .i64 rk, .int .i64 eo, .string dt]) i (fun _ => rfl) hq rfl rfl rfl rfl (by omega)) ?_ | refine sdl (h := ok_load_rowsE (f := fmC) (cs := [.int .i64 kd, .int .i64 sr, .int .i64 tg, .int .i64 li, .int .i64 sq, .int .i64 fl, .int .i64 nu, .int .i64 er, .int .i64 sx, .int .i64 rk, .int .i64 eo, .string dt]) i (fun _ => rfl) hq rfl rfl rfl rfl (by omega)) ?_ | refine st ?_ | refine stMW [] HR ?_ | refine stm ?_ | refine Ja ?_ | refine Jb ?_ | refine Jc ?_ | refine Jd ?_ | refine Je ?_ | refine Jf ?_ | refine Jg ?_ | refine Jh ?_ ?_ | refine Ji ?_ ?_ | refine Jj ?_ ?_ | refine run_nil ?_ | refine sd ?_ | refine sdl ?_ | refine sdm (n := 1) ?_ | refine sdm ?_ | refine sdb ?_ | refine Jk ?_ | refine Jl ?_ | refine Jm ?_ | refine Jn ?_ ?_ | refine Jo ?_ ?_ | refine Jp ?_ ?_ | refine rund_nil ?_ | refine Jz ?_ | refine Jw ?_ | refine Jx (id := 9) [0,1,3,7,15,31,63,127,255,511,1023,1023,1023,7167,15359,32767,65535,131071] 18 ?_ | refine Jx (id := 14) [0,0,3,7,15,0,0,96,224,480,0,1024,3103,7199,16383,32767] 11 ?_ | refine aw_block ?_ | refine Jq ?_ | refine Jr ?_ | refine Js ?_ | refine Jt ?_ | refine Ju ?_ ?_ | refine Jv ?_ ?_ | refine Jy ?_ | refine aw_exit ?_ | refine aw_ret ?_ | refine pp_ret ?_ | refine pp_normal ?_
  all_goals first | exact Exists.intro ⟨i + 1⟩ ⟨(by (dsimp only; rw [hnx]; exact fitsD [0, 1, 2])), hi, by dsimp only; omega⟩ | (exfalso; omega)
set_option maxHeartbeats 16000000 in
theorem j_fst {Q : Exit → Slots → Mem → Prop} (nm sec : ByteArray) (sj pa ep nd no tr si : Int) (L : List Fm) (n i : Nat) (hn : L.length = n) (hnb : n ≤ 1000000) (hi : i < n) (kd sr tg li sq fl nu er sx rk eo : Int) (dt : ByteArray) (hq : L[i]? = some ⟨kd, sr, tg, li, sq, fl, nu, er, sx, rk, eo, dt⟩) (hds : dt.size ≤ 1000) (m1 : Int) (_u : Bool) (m3 : ByteArray) (m4 m5 m6 : Int) (m7 : List Int) (z : Int) (hres : readO (isC kd sr tg li sq fl nu er sx rk eo) dt = ((m1, true, m3, m4, m5, m6, m7), z)) (hnx : hrB L (i + 1) = i) (hz : z = 0) (hb0 : hrB L i < 0) : AW Tryz.prog Tryz.f33.ntmps 1 (loopAt Tryz.f33 0) (ThenA (fun σ1 m1 => ∃ y : Hq, Fits 1 ([(1, .slice (some ⟨0, 0, none⟩) n n), (2, .pointer (some ⟨1, 0, none⟩)), (4, .pointer (some ⟨2, 0, none⟩)), (7, .int .i64 (hrB L y.i)), (18, .slice (some ⟨0, 0, none⟩) n n), (19, .int .i64 n), (20, .int .i64 y.i)]) ([some ⟨L.flatMap fmC, false, 12⟩, some ⟨[.string nm, .string sec, .int .i64 sj, .int .i64 pa, .int .i64 ep, .int .i64 nd, .int .i64 no, .int .i64 tr, .int .i64 si], true, 1⟩, some ⟨[.string ⟨#[]⟩, .string ⟨#[]⟩, .int .i64 0, .int .i64 0, .int .i64 0, .int .i64 0, .int .i64 0, .int .i64 0, .int .i64 0], true, 1⟩]) σ1 m1 ∧ y.i ≤ n ∧ n - y.i < n - i) Q) ([(1, .slice (some ⟨0, 0, none⟩) n n), (2, .pointer (some ⟨1, 0, none⟩)), (4, .pointer (some ⟨2, 0, none⟩)), (7, .int .i64 (hrB L i)), (18, .slice (some ⟨0, 0, none⟩) n n), (19, .int .i64 n), (20, .int .i64 i)]) ([some ⟨L.flatMap fmC, false, 12⟩, some ⟨[.string nm, .string sec, .int .i64 sj, .int .i64 pa, .int .i64 ep, .int .i64 nd, .int .i64 no, .int .i64 tr, .int .i64 si], true, 1⟩, some ⟨[.string ⟨#[]⟩, .string ⟨#[]⟩, .int .i64 0, .int .i64 0, .int .i64 0, .int .i64 0, .int .i64 0, .int .i64 0, .int .i64 0], true, 1⟩]) := by
  have hbd := hrB_bd L i
  obtain ⟨B, hB⟩ : ∃ B, hrB L i = B := ⟨_, rfl⟩
  rw [hB] at hbd hb0 ⊢
  have HR := ac_read kd sr tg li sq fl nu er sx rk eo dt hds _ rfl (m1, true, m3, m4, m5, m6, m7) z _ hres rfl
  dsimp only at HR
  subst hz
  repeat' first | intro h1 | intro h1 | refine st (h := ok_load_rowsE (f := fmC) (cs := [.int .i64 kd, .int .i64 sr, .int .i64 tg, .int .i64 li, .int .i64 sq, .int .i64 fl, .int .i64 nu, .int .i64 er, .int .i64 sx, .int .i64 rk, .int .i64 eo, .string dt]) i (fun _ => rfl) hq rfl rfl rfl rfl (by omega)) ?_ | refine sdl (h := ok_load_rowsE (f := fmC) (cs := [.int .i64 kd, .int .i64 sr, .int .i64 tg, .int .i64 li, .int .i64 sq, .int .i64 fl, .int .i64 nu, .int .i64 er, .int .i64 sx, .int .i64 rk, .int .i64 eo, .string dt]) i (fun _ => rfl) hq rfl rfl rfl rfl (by omega)) ?_ | refine st ?_ | refine stMW [] HR ?_ | refine stm ?_ | refine Ja ?_ | refine Jb ?_ | refine Jc ?_ | refine Jd ?_ | refine Je ?_ | refine Jf ?_ | refine Jg ?_ | refine Jh ?_ ?_ | refine Ji ?_ ?_ | refine Jj ?_ ?_ | refine run_nil ?_ | refine sd ?_ | refine sdl ?_ | refine sdm (n := 1) ?_ | refine sdm ?_ | refine sdb ?_ | refine Jk ?_ | refine Jl ?_ | refine Jm ?_ | refine Jn ?_ ?_ | refine Jo ?_ ?_ | refine Jp ?_ ?_ | refine rund_nil ?_ | refine Jz ?_ | refine Jw ?_ | refine Jx (id := 9) [0,1,3,7,15,31,63,127,255,511,1023,1023,1023,7167,15359,32767,65535,131071] 18 ?_ | refine Jx (id := 14) [0,0,3,7,15,0,0,96,224,480,0,1024,3103,7199,16383,32767] 11 ?_ | refine aw_block ?_ | refine Jq ?_ | refine Jr ?_ | refine Js ?_ | refine Jt ?_ | refine Ju ?_ ?_ | refine Jv ?_ ?_ | refine Jy ?_ | refine aw_exit ?_ | refine aw_ret ?_ | refine pp_ret ?_ | refine pp_normal ?_
  all_goals first | exact Exists.intro ⟨i + 1⟩ ⟨(by (dsimp only; rw [hnx]; exact fitsD [0, 1, 2])), hi, by dsimp only; omega⟩ | (exfalso; omega)
set_option maxHeartbeats 16000000 in
theorem j_bt0 {Q : Exit → Slots → Mem → Prop} (nm sec : ByteArray) (sj pa ep nd no tr si : Int) (L : List Fm) (n i : Nat) (hn : L.length = n) (hnb : n ≤ 1000000) (hi : i < n) (kd sr tg li sq fl nu er sx rk eo : Int) (dt : ByteArray) (hq : L[i]? = some ⟨kd, sr, tg, li, sq, fl, nu, er, sx, rk, eo, dt⟩) (hds : dt.size ≤ 1000) (m1 : Int) (_u : Bool) (m3 : ByteArray) (m4 m5 m6 : Int) (m7 : List Int) (z : Int) (hres : readO (isC kd sr tg li sq fl nu er sx rk eo) dt = ((m1, true, m3, m4, m5, m6, m7), z)) (b : Nat) (hb : hrB L i = b) (kd' sr' tg' li' sq' fl' nu' er' sx' rk' eo' : Int) (dt' : ByteArray) (hg : L[b]? = some ⟨kd', sr', tg', li', sq', fl', nu', er', sx', rk', eo', dt'⟩) (hnx : hrB L (i + 1) = (b : Nat)) (hz : z = 0) (hv : betC (isC kd sr tg li sq fl nu er sx rk eo) (isC kd' sr' tg' li' sq' fl' nu' er' sx' rk' eo') eo rk sr eo' rk' sr' = false) : AW Tryz.prog Tryz.f33.ntmps 1 (loopAt Tryz.f33 0) (ThenA (fun σ1 m1 => ∃ y : Hq, Fits 1 ([(1, .slice (some ⟨0, 0, none⟩) n n), (2, .pointer (some ⟨1, 0, none⟩)), (4, .pointer (some ⟨2, 0, none⟩)), (7, .int .i64 (hrB L y.i)), (18, .slice (some ⟨0, 0, none⟩) n n), (19, .int .i64 n), (20, .int .i64 y.i)]) ([some ⟨L.flatMap fmC, false, 12⟩, some ⟨[.string nm, .string sec, .int .i64 sj, .int .i64 pa, .int .i64 ep, .int .i64 nd, .int .i64 no, .int .i64 tr, .int .i64 si], true, 1⟩, some ⟨[.string ⟨#[]⟩, .string ⟨#[]⟩, .int .i64 0, .int .i64 0, .int .i64 0, .int .i64 0, .int .i64 0, .int .i64 0, .int .i64 0], true, 1⟩]) σ1 m1 ∧ y.i ≤ n ∧ n - y.i < n - i) Q) ([(1, .slice (some ⟨0, 0, none⟩) n n), (2, .pointer (some ⟨1, 0, none⟩)), (4, .pointer (some ⟨2, 0, none⟩)), (7, .int .i64 (hrB L i)), (18, .slice (some ⟨0, 0, none⟩) n n), (19, .int .i64 n), (20, .int .i64 i)]) ([some ⟨L.flatMap fmC, false, 12⟩, some ⟨[.string nm, .string sec, .int .i64 sj, .int .i64 pa, .int .i64 ep, .int .i64 nd, .int .i64 no, .int .i64 tr, .int .i64 si], true, 1⟩, some ⟨[.string ⟨#[]⟩, .string ⟨#[]⟩, .int .i64 0, .int .i64 0, .int .i64 0, .int .i64 0, .int .i64 0, .int .i64 0, .int .i64 0], true, 1⟩]) := by
  have hbd := hrB_bd L i
  rw [hb] at hbd ⊢
  have HR := ac_read kd sr tg li sq fl nu er sx rk eo dt hds _ rfl (m1, true, m3, m4, m5, m6, m7) z _ hres rfl
  dsimp only at HR
  subst hz
  have HB := ac_better kd sr tg li sq fl nu er sx rk eo dt kd' sr' tg' li' sq' fl' nu' er' sx' rk' eo' dt' _ _ _ rfl rfl rfl
  rw [hv] at HB
  repeat' first | intro h1 | intro h1 | refine st (h := ok_load_rowsE (f := fmC) (cs := [.int .i64 kd, .int .i64 sr, .int .i64 tg, .int .i64 li, .int .i64 sq, .int .i64 fl, .int .i64 nu, .int .i64 er, .int .i64 sx, .int .i64 rk, .int .i64 eo, .string dt]) i (fun _ => rfl) hq rfl rfl rfl rfl (by omega)) ?_ | refine sdl (h := ok_load_rowsE (f := fmC) (cs := [.int .i64 kd, .int .i64 sr, .int .i64 tg, .int .i64 li, .int .i64 sq, .int .i64 fl, .int .i64 nu, .int .i64 er, .int .i64 sx, .int .i64 rk, .int .i64 eo, .string dt]) i (fun _ => rfl) hq rfl rfl rfl rfl (by omega)) ?_ | refine sd (h := ok_load_rowsE (f := fmC) (cs := [.int .i64 kd, .int .i64 sr, .int .i64 tg, .int .i64 li, .int .i64 sq, .int .i64 fl, .int .i64 nu, .int .i64 er, .int .i64 sx, .int .i64 rk, .int .i64 eo, .string dt]) i (fun _ => rfl) hq rfl rfl rfl rfl (by omega)) ?_ | refine sdl (h := ok_load_rowsE (f := fmC) (cs := [.int .i64 kd', .int .i64 sr', .int .i64 tg', .int .i64 li', .int .i64 sq', .int .i64 fl', .int .i64 nu', .int .i64 er', .int .i64 sx', .int .i64 rk', .int .i64 eo', .string dt']) b (fun _ => rfl) hg rfl rfl rfl rfl (by omega)) ?_ | refine sd (h := ok_load_rowsE (f := fmC) (cs := [.int .i64 kd', .int .i64 sr', .int .i64 tg', .int .i64 li', .int .i64 sq', .int .i64 fl', .int .i64 nu', .int .i64 er', .int .i64 sx', .int .i64 rk', .int .i64 eo', .string dt']) b (fun _ => rfl) hg rfl rfl rfl rfl (by omega)) ?_ | refine st ?_ | refine stMW [] HR ?_ | refine st_call (HB) ?_ | refine sd_call (HB) ?_ | refine stm ?_ | refine Ja ?_ | refine Jb ?_ | refine Jc ?_ | refine Jd ?_ | refine Je ?_ | refine Jf ?_ | refine Jg ?_ | refine Jh ?_ ?_ | refine Ji ?_ ?_ | refine Jj ?_ ?_ | refine run_nil ?_ | refine sd ?_ | refine sdl ?_ | refine sdm (n := 1) ?_ | refine sdm ?_ | refine sdb ?_ | refine Jk ?_ | refine Jl ?_ | refine Jm ?_ | refine Jn ?_ ?_ | refine Jo ?_ ?_ | refine Jp ?_ ?_ | refine rund_nil ?_ | refine Jz ?_ | refine Jw ?_ | refine Jx (id := 9) [0,1,3,7,15,31,63,127,255,511,1023,1023,1023,7167,15359,32767,65535,131071] 18 ?_ | refine Jx (id := 14) [0,0,3,7,15,0,0,96,224,480,0,1024,3103,7199,16383,32767] 11 ?_ | refine aw_block ?_ | refine Jq ?_ | refine Jr ?_ | refine Js ?_ | refine Jt ?_ | refine Ju ?_ ?_ | refine Jv ?_ ?_ | refine Jy ?_ | refine aw_exit ?_ | refine aw_ret ?_ | refine pp_ret ?_ | refine pp_normal ?_
  all_goals first | exact Exists.intro ⟨i + 1⟩ ⟨(by (dsimp only; rw [hnx]; exact fitsD [0, 1, 2])), hi, by dsimp only; omega⟩ | (exfalso; omega)
set_option maxHeartbeats 16000000 in
theorem j_bt1 {Q : Exit → Slots → Mem → Prop} (nm sec : ByteArray) (sj pa ep nd no tr si : Int) (L : List Fm) (n i : Nat) (hn : L.length = n) (hnb : n ≤ 1000000) (hi : i < n) (kd sr tg li sq fl nu er sx rk eo : Int) (dt : ByteArray) (hq : L[i]? = some ⟨kd, sr, tg, li, sq, fl, nu, er, sx, rk, eo, dt⟩) (hds : dt.size ≤ 1000) (m1 : Int) (_u : Bool) (m3 : ByteArray) (m4 m5 m6 : Int) (m7 : List Int) (z : Int) (hres : readO (isC kd sr tg li sq fl nu er sx rk eo) dt = ((m1, true, m3, m4, m5, m6, m7), z)) (b : Nat) (hb : hrB L i = b) (kd' sr' tg' li' sq' fl' nu' er' sx' rk' eo' : Int) (dt' : ByteArray) (hg : L[b]? = some ⟨kd', sr', tg', li', sq', fl', nu', er', sx', rk', eo', dt'⟩) (hnx : hrB L (i + 1) = (i : Nat)) (hz : z = 0) (hv : betC (isC kd sr tg li sq fl nu er sx rk eo) (isC kd' sr' tg' li' sq' fl' nu' er' sx' rk' eo') eo rk sr eo' rk' sr' = true) : AW Tryz.prog Tryz.f33.ntmps 1 (loopAt Tryz.f33 0) (ThenA (fun σ1 m1 => ∃ y : Hq, Fits 1 ([(1, .slice (some ⟨0, 0, none⟩) n n), (2, .pointer (some ⟨1, 0, none⟩)), (4, .pointer (some ⟨2, 0, none⟩)), (7, .int .i64 (hrB L y.i)), (18, .slice (some ⟨0, 0, none⟩) n n), (19, .int .i64 n), (20, .int .i64 y.i)]) ([some ⟨L.flatMap fmC, false, 12⟩, some ⟨[.string nm, .string sec, .int .i64 sj, .int .i64 pa, .int .i64 ep, .int .i64 nd, .int .i64 no, .int .i64 tr, .int .i64 si], true, 1⟩, some ⟨[.string ⟨#[]⟩, .string ⟨#[]⟩, .int .i64 0, .int .i64 0, .int .i64 0, .int .i64 0, .int .i64 0, .int .i64 0, .int .i64 0], true, 1⟩]) σ1 m1 ∧ y.i ≤ n ∧ n - y.i < n - i) Q) ([(1, .slice (some ⟨0, 0, none⟩) n n), (2, .pointer (some ⟨1, 0, none⟩)), (4, .pointer (some ⟨2, 0, none⟩)), (7, .int .i64 (hrB L i)), (18, .slice (some ⟨0, 0, none⟩) n n), (19, .int .i64 n), (20, .int .i64 i)]) ([some ⟨L.flatMap fmC, false, 12⟩, some ⟨[.string nm, .string sec, .int .i64 sj, .int .i64 pa, .int .i64 ep, .int .i64 nd, .int .i64 no, .int .i64 tr, .int .i64 si], true, 1⟩, some ⟨[.string ⟨#[]⟩, .string ⟨#[]⟩, .int .i64 0, .int .i64 0, .int .i64 0, .int .i64 0, .int .i64 0, .int .i64 0, .int .i64 0], true, 1⟩]) := by
  have hbd := hrB_bd L i
  rw [hb] at hbd ⊢
  have HR := ac_read kd sr tg li sq fl nu er sx rk eo dt hds _ rfl (m1, true, m3, m4, m5, m6, m7) z _ hres rfl
  dsimp only at HR
  subst hz
  have HB := ac_better kd sr tg li sq fl nu er sx rk eo dt kd' sr' tg' li' sq' fl' nu' er' sx' rk' eo' dt' _ _ _ rfl rfl rfl
  rw [hv] at HB
  repeat' first | intro h1 | intro h1 | refine st (h := ok_load_rowsE (f := fmC) (cs := [.int .i64 kd, .int .i64 sr, .int .i64 tg, .int .i64 li, .int .i64 sq, .int .i64 fl, .int .i64 nu, .int .i64 er, .int .i64 sx, .int .i64 rk, .int .i64 eo, .string dt]) i (fun _ => rfl) hq rfl rfl rfl rfl (by omega)) ?_ | refine sdl (h := ok_load_rowsE (f := fmC) (cs := [.int .i64 kd, .int .i64 sr, .int .i64 tg, .int .i64 li, .int .i64 sq, .int .i64 fl, .int .i64 nu, .int .i64 er, .int .i64 sx, .int .i64 rk, .int .i64 eo, .string dt]) i (fun _ => rfl) hq rfl rfl rfl rfl (by omega)) ?_ | refine sd (h := ok_load_rowsE (f := fmC) (cs := [.int .i64 kd, .int .i64 sr, .int .i64 tg, .int .i64 li, .int .i64 sq, .int .i64 fl, .int .i64 nu, .int .i64 er, .int .i64 sx, .int .i64 rk, .int .i64 eo, .string dt]) i (fun _ => rfl) hq rfl rfl rfl rfl (by omega)) ?_ | refine sdl (h := ok_load_rowsE (f := fmC) (cs := [.int .i64 kd', .int .i64 sr', .int .i64 tg', .int .i64 li', .int .i64 sq', .int .i64 fl', .int .i64 nu', .int .i64 er', .int .i64 sx', .int .i64 rk', .int .i64 eo', .string dt']) b (fun _ => rfl) hg rfl rfl rfl rfl (by omega)) ?_ | refine sd (h := ok_load_rowsE (f := fmC) (cs := [.int .i64 kd', .int .i64 sr', .int .i64 tg', .int .i64 li', .int .i64 sq', .int .i64 fl', .int .i64 nu', .int .i64 er', .int .i64 sx', .int .i64 rk', .int .i64 eo', .string dt']) b (fun _ => rfl) hg rfl rfl rfl rfl (by omega)) ?_ | refine st ?_ | refine stMW [] HR ?_ | refine st_call (HB) ?_ | refine sd_call (HB) ?_ | refine stm ?_ | refine Ja ?_ | refine Jb ?_ | refine Jc ?_ | refine Jd ?_ | refine Je ?_ | refine Jf ?_ | refine Jg ?_ | refine Jh ?_ ?_ | refine Ji ?_ ?_ | refine Jj ?_ ?_ | refine run_nil ?_ | refine sd ?_ | refine sdl ?_ | refine sdm (n := 1) ?_ | refine sdm ?_ | refine sdb ?_ | refine Jk ?_ | refine Jl ?_ | refine Jm ?_ | refine Jn ?_ ?_ | refine Jo ?_ ?_ | refine Jp ?_ ?_ | refine rund_nil ?_ | refine Jz ?_ | refine Jw ?_ | refine Jx (id := 9) [0,1,3,7,15,31,63,127,255,511,1023,1023,1023,7167,15359,32767,65535,131071] 18 ?_ | refine Jx (id := 14) [0,0,3,7,15,0,0,96,224,480,0,1024,3103,7199,16383,32767] 11 ?_ | refine aw_block ?_ | refine Jq ?_ | refine Jr ?_ | refine Js ?_ | refine Jt ?_ | refine Ju ?_ ?_ | refine Jv ?_ ?_ | refine Jy ?_ | refine aw_exit ?_ | refine aw_ret ?_ | refine pp_ret ?_ | refine pp_normal ?_
  all_goals first | exact Exists.intro ⟨i + 1⟩ ⟨(by (dsimp only; rw [hnx]; exact fitsD [0, 1, 2])), hi, by dsimp only; omega⟩ | (exfalso; omega)
set_option maxHeartbeats 16000000 in
theorem ac_jHear (nm sec : ByteArray) (sj pa ep nd no tr si : Int) (L : List Fm) (n : Nat) (hn : L.length = n) (hnb : n ≤ 1000000) (hd : ∀ f ∈ L, f.dt.size ≤ 1000) (e : Int) (he : (if chJ nm sec sj pa ep nd no tr si = false then 1 else if sj ≠ 0 then 12 else if hrB L n < 0 then 14 else 0) = e) (fs fe : Int) (hf : ∀ f, L[(hrB L n).toNat]? = some f → f.sr = fs ∧ f.ep = fe) : ACalls Tryz.prog 33 [.agg #[.string nm, .string sec, .int .i64 sj, .int .i64 pa, .int .i64 ep, .int .i64 nd, .int .i64 no, .int .i64 tr, .int .i64 si], .slice (some ⟨0, 0, none⟩) n n] [some ⟨L.flatMap fmC, false, 12⟩] (.tuple #[if e = 0 then .agg #[.string nm, .string sec, .int .i64 1, .int .i64 fs, .int .i64 fe, .int .i64 nd, .int .i64 no, .int .i64 tr, .int .i64 si] else .agg #[.string ⟨#[]⟩, .string ⟨#[]⟩, .int .i64 0, .int .i64 0, .int .i64 0, .int .i64 0, .int .i64 0, .int .i64 0, .int .i64 0], .int .i64 e]) [none] := by
  obtain ⟨x, hx⟩ : ∃ x, chJ nm sec sj pa ep nd no tr si = x := ⟨_, rfl⟩
  obtain ⟨y, hy⟩ : ∃ y, decide (sj = 0) = y := ⟨_, rfl⟩
  have HC := ac_jin nm sec sj pa ep nd no tr si 0 x y hx hy
  rw [hx] at he
  clear hx
  cases x
  · rw [if_pos rfl] at he
    subst he
    rw [if_neg (by decide)]
    clear hf hd
    cases y
    · have hy := of_decide_eq_false hy
      refine acalls_law Tryz.func33 rfl rfl rfl ?_
      repeat' first | intro h1 | intro h1 | refine st ?_ | refine st_call (HC) ?_ | refine sd_call (HC) ?_ | refine stm ?_ | refine Ja ?_ | refine Jb ?_ | refine Jc ?_ | refine Jd ?_ | refine Je ?_ | refine Jf ?_ | refine Jg ?_ | refine Jh ?_ ?_ | refine Ji ?_ ?_ | refine Jj ?_ ?_ | refine run_nil ?_ | refine sd ?_ | refine sdl ?_ | refine sdm (n := 1) ?_ | refine sdm ?_ | refine sdb ?_ | refine Jk ?_ | refine Jl ?_ | refine Jm ?_ | refine Jn ?_ ?_ | refine Jo ?_ ?_ | refine Jp ?_ ?_ | refine rund_nil ?_ | refine Jz ?_ | refine Jw ?_ | refine Jx (id := 9) [0,1,3,7,15,31,63,127,255,511,1023,1023,1023,7167,15359,32767,65535,131071] 18 ?_ | refine Jx (id := 14) [0,0,3,7,15,0,0,96,224,480,0,1024,3103,7199,16383,32767] 11 ?_ | refine aw_block ?_ | refine Jq ?_ | refine Jr ?_ | refine Js ?_ | refine Jt ?_ | refine Ju ?_ ?_ | refine Jv ?_ ?_ | refine Jy ?_ | refine aw_exit ?_ | refine aw_ret ?_ | refine pp_ret ?_ | refine pp_normal ?_
      all_goals first
        | rfl
        | (exfalso; omega)
        | (simp [retOf]; done)
        | (exfalso; simp_all; done)
        | (exfalso; simp only [Bool.not_eq_true', Bool.not_eq_false', decide_eq_true_eq, decide_eq_false_iff_not, Bool.not_false, Bool.not_true] at *; omega)
    · have hy := of_decide_eq_true hy
      refine acalls_law Tryz.func33 rfl rfl rfl ?_
      repeat' first | intro h1 | intro h1 | refine st ?_ | refine st_call (HC) ?_ | refine sd_call (HC) ?_ | refine stm ?_ | refine Ja ?_ | refine Jb ?_ | refine Jc ?_ | refine Jd ?_ | refine Je ?_ | refine Jf ?_ | refine Jg ?_ | refine Jh ?_ ?_ | refine Ji ?_ ?_ | refine Jj ?_ ?_ | refine run_nil ?_ | refine sd ?_ | refine sdl ?_ | refine sdm (n := 1) ?_ | refine sdm ?_ | refine sdb ?_ | refine Jk ?_ | refine Jl ?_ | refine Jm ?_ | refine Jn ?_ ?_ | refine Jo ?_ ?_ | refine Jp ?_ ?_ | refine rund_nil ?_ | refine Jz ?_ | refine Jw ?_ | refine Jx (id := 9) [0,1,3,7,15,31,63,127,255,511,1023,1023,1023,7167,15359,32767,65535,131071] 18 ?_ | refine Jx (id := 14) [0,0,3,7,15,0,0,96,224,480,0,1024,3103,7199,16383,32767] 11 ?_ | refine aw_block ?_ | refine Jq ?_ | refine Jr ?_ | refine Js ?_ | refine Jt ?_ | refine Ju ?_ ?_ | refine Jv ?_ ?_ | refine Jy ?_ | refine aw_exit ?_ | refine aw_ret ?_ | refine pp_ret ?_ | refine pp_normal ?_
      all_goals first
        | rfl
        | (exfalso; omega)
        | (simp [retOf]; done)
        | (exfalso; simp_all; done)
        | (exfalso; simp only [Bool.not_eq_true', Bool.not_eq_false', decide_eq_true_eq, decide_eq_false_iff_not, Bool.not_false, Bool.not_true] at *; omega)
  rw [if_neg (by decide)] at he
  cases y
  · have hy := of_decide_eq_false hy
    rw [if_pos hy] at he
    subst he
    rw [if_neg (by decide)]
    clear hf hd
    refine acalls_law Tryz.func33 rfl rfl rfl ?_
    repeat' first | intro h1 | intro h1 | refine st ?_ | refine st_call (HC) ?_ | refine sd_call (HC) ?_ | refine stm ?_ | refine Ja ?_ | refine Jb ?_ | refine Jc ?_ | refine Jd ?_ | refine Je ?_ | refine Jf ?_ | refine Jg ?_ | refine Jh ?_ ?_ | refine Ji ?_ ?_ | refine Jj ?_ ?_ | refine run_nil ?_ | refine sd ?_ | refine sdl ?_ | refine sdm (n := 1) ?_ | refine sdm ?_ | refine sdb ?_ | refine Jk ?_ | refine Jl ?_ | refine Jm ?_ | refine Jn ?_ ?_ | refine Jo ?_ ?_ | refine Jp ?_ ?_ | refine rund_nil ?_ | refine Jz ?_ | refine Jw ?_ | refine Jx (id := 9) [0,1,3,7,15,31,63,127,255,511,1023,1023,1023,7167,15359,32767,65535,131071] 18 ?_ | refine Jx (id := 14) [0,0,3,7,15,0,0,96,224,480,0,1024,3103,7199,16383,32767] 11 ?_ | refine aw_block ?_ | refine Jq ?_ | refine Jr ?_ | refine Js ?_ | refine Jt ?_ | refine Ju ?_ ?_ | refine Jv ?_ ?_ | refine Jy ?_ | refine aw_exit ?_ | refine aw_ret ?_ | refine pp_ret ?_ | refine pp_normal ?_
    all_goals first
      | rfl
      | (exfalso; omega)
      | (simp [retOf]; done)
      | (exfalso; simp_all; done)
      | (exfalso; simp only [Bool.not_eq_true', Bool.not_eq_false', decide_eq_true_eq, decide_eq_false_iff_not, Bool.not_false, Bool.not_true] at *; omega)
  have hy := of_decide_eq_true hy
  rw [if_neg (by omega)] at he
  refine acalls_law Tryz.func33 rfl rfl (by split <;> rfl) ?_
  repeat' first | intro h1 | intro h1 | refine st ?_ | refine st_call (HC) ?_ | refine sd_call (HC) ?_ | refine stm ?_ | refine Ja ?_ | refine Jb ?_ | refine Jc ?_ | refine Jd ?_ | refine Je ?_ | refine Jf ?_ | refine Jg ?_ | refine Jh ?_ ?_ | refine Ji ?_ ?_ | refine Jj ?_ ?_ | refine run_nil ?_ | refine sd ?_ | refine sdl ?_ | refine sdm (n := 1) ?_ | refine sdm ?_ | refine sdb ?_ | refine Jk ?_ | refine Jl ?_ | refine Jm ?_ | refine Jn ?_ ?_ | refine Jo ?_ ?_ | refine Jp ?_ ?_ | refine rund_nil ?_ | refine Jz ?_ | refine Jw ?_ | refine Jx (id := 9) [0,1,3,7,15,31,63,127,255,511,1023,1023,1023,7167,15359,32767,65535,131071] 18 ?_ | refine Jx (id := 14) [0,0,3,7,15,0,0,96,224,480,0,1024,3103,7199,16383,32767] 11 ?_ | refine aw_block ?_ | refine Jq ?_ | refine Jr ?_ | refine Js ?_ | refine Jt ?_ | refine Ju ?_ ?_ | refine Jv ?_ ?_ | refine Jy ?_ | refine aw_exit ?_ | refine aw_ret ?_ | refine pp_ret ?_ | refine pp_normal ?_
  all_goals try (exfalso; omega)
  clear HC
  refine aw_loopg
    (S := fun y : Hq => [(1, .slice (some ⟨0, 0, none⟩) n n), (2, .pointer (some ⟨1, 0, none⟩)), (4, .pointer (some ⟨2, 0, none⟩)), (7, .int .i64 (hrB L y.i)), (18, .slice (some ⟨0, 0, none⟩) n n), (19, .int .i64 n), (20, .int .i64 y.i)])
    (B := fun _ : Hq => [some ⟨L.flatMap fmC, false, 12⟩, some ⟨[.string nm, .string sec, .int .i64 sj, .int .i64 pa, .int .i64 ep, .int .i64 nd, .int .i64 no, .int .i64 tr, .int .i64 si], true, 1⟩, some ⟨[.string ⟨#[]⟩, .string ⟨#[]⟩, .int .i64 0, .int .i64 0, .int .i64 0, .int .i64 0, .int .i64 0, .int .i64 0, .int .i64 0], true, 1⟩])
    (R := fun y : Hq => y.i ≤ n)
    (μ := fun y : Hq => n - y.i) ⟨0⟩ (fitsD [0, 1, 2]) (Nat.zero_le _) ?_
  rintro ⟨i⟩ g1
  dsimp only at g1 ⊢
  have hbd := hrB_bd L i
  by_cases hi : i < n
  · obtain ⟨f, hq⟩ : ∃ f, L[i]? = some f := ⟨_, List.getElem?_eq_getElem (by omega)⟩
    have hds := hd f (List.mem_of_getElem? hq)
    clear hf he hd
    obtain ⟨kd, sr, tg, li, sq, fl, nu, er, sx, rk, eo, dt⟩ := f
    dsimp only at hds
    obtain ⟨⟨m1, op, m3, m4, m5, m6, m7⟩, z, hres⟩ : ∃ m z, readO (isC kd sr tg li sq fl nu er sx rk eo) dt = (m, z) := ⟨_, _, rfl⟩
    have hop : opF ⟨kd, sr, tg, li, sq, fl, nu, er, sx, rk, eo, dt⟩ = (decide (z = 0) && op) := by
      unfold opF isF
      dsimp only
      rw [hres]
    by_cases hz : z = 0
    · rw [decide_eq_true hz, Bool.true_and] at hop
      cases op with
      | false => exact j_no0 nm sec sj pa ep nd no tr si L n i hn hnb hi kd sr tg li sq fl nu er sx rk eo dt hq hds m1 false m3 m4 m5 m6 m7 z hres (hrB_no hq hop) hz
      | true =>
        by_cases hb0 : hrB L i < 0
        · exact j_fst nm sec sj pa ep nd no tr si L n i hn hnb hi kd sr tg li sq fl nu er sx rk eo dt hq hds m1 false m3 m4 m5 m6 m7 z hres (hrB_first hq hop hb0) hz hb0
        · obtain ⟨b, hb⟩ : ∃ b : Nat, hrB L i = b := ⟨(hrB L i).toNat, by omega⟩
          obtain ⟨⟨kd', sr', tg', li', sq', fl', nu', er', sx', rk', eo', dt'⟩, hg⟩ : ∃ g, L[b]? = some g := ⟨_, List.getElem?_eq_getElem (by omega)⟩
          have hnx := hrB_bt hq hop hb hg
          unfold btF isF at hnx
          dsimp only at hnx
          cases hv : betC (isC kd sr tg li sq fl nu er sx rk eo) (isC kd' sr' tg' li' sq' fl' nu' er' sx' rk' eo') eo rk sr eo' rk' sr' with
          | false =>
            rw [hv, if_neg (by decide)] at hnx
            exact j_bt0 nm sec sj pa ep nd no tr si L n i hn hnb hi kd sr tg li sq fl nu er sx rk eo dt hq hds m1 false m3 m4 m5 m6 m7 z hres b hb kd' sr' tg' li' sq' fl' nu' er' sx' rk' eo' dt' hg hnx hz hv
          | true =>
            rw [hv, if_pos rfl] at hnx
            exact j_bt1 nm sec sj pa ep nd no tr si L n i hn hnb hi kd sr tg li sq fl nu er sx rk eo dt hq hds m1 false m3 m4 m5 m6 m7 z hres b hb kd' sr' tg' li' sq' fl' nu' er' sx' rk' eo' dt' hg hnx hz hv
    · rw [decide_eq_false hz, Bool.false_and] at hop
      exact j_no1 nm sec sj pa ep nd no tr si L n i hn hnb hi kd sr tg li sq fl nu er sx rk eo dt hq hds m1 op m3 m4 m5 m6 m7 z hres (hrB_no hq hop) hz
  · obtain rfl : i = n := by omega
    by_cases hb0 : hrB L i < 0
    · rw [if_pos hb0] at he
      subst he
      rw [if_neg (by decide)]
      obtain ⟨B, hB⟩ : ∃ B, hrB L i = B := ⟨_, rfl⟩
      rw [hB] at hb0 ⊢
      clear hf hd
      repeat' first | intro h1 | intro h1 | refine st ?_ | refine st_call (HC) ?_ | refine sd_call (HC) ?_ | refine stm ?_ | refine Ja ?_ | refine Jb ?_ | refine Jc ?_ | refine Jd ?_ | refine Je ?_ | refine Jf ?_ | refine Jg ?_ | refine Jh ?_ ?_ | refine Ji ?_ ?_ | refine Jj ?_ ?_ | refine run_nil ?_ | refine sd ?_ | refine sdl ?_ | refine sdm (n := 1) ?_ | refine sdm ?_ | refine sdb ?_ | refine Jk ?_ | refine Jl ?_ | refine Jm ?_ | refine Jn ?_ ?_ | refine Jo ?_ ?_ | refine Jp ?_ ?_ | refine rund_nil ?_ | refine Jz ?_ | refine Jw ?_ | refine Jx (id := 9) [0,1,3,7,15,31,63,127,255,511,1023,1023,1023,7167,15359,32767,65535,131071] 18 ?_ | refine Jx (id := 14) [0,0,3,7,15,0,0,96,224,480,0,1024,3103,7199,16383,32767] 11 ?_ | refine aw_block ?_ | refine Jq ?_ | refine Jr ?_ | refine Js ?_ | refine Jt ?_ | refine Ju ?_ ?_ | refine Jv ?_ ?_ | refine Jy ?_ | refine aw_exit ?_ | refine aw_ret ?_ | refine pp_ret ?_ | refine pp_normal ?_
      all_goals first
        | rfl
        | (exfalso; omega)
        | (simp [retOf]; done)
        | (exfalso; simp_all; done)
        | (exfalso; simp only [Bool.not_eq_true', Bool.not_eq_false', decide_eq_true_eq, decide_eq_false_iff_not, Bool.not_false, Bool.not_true] at *; omega)
    · rw [if_neg hb0] at he
      subst he
      rw [if_pos rfl]
      obtain ⟨b, hb⟩ : ∃ b : Nat, hrB L i = b := ⟨(hrB L i).toNat, by omega⟩
      obtain ⟨f, hq⟩ : ∃ f, L[b]? = some f := ⟨_, List.getElem?_eq_getElem (by omega)⟩
      obtain ⟨e1, e2⟩ := hf f (by rw [hb, Int.toNat_natCast]; exact hq)
      rw [hb] at hb0 ⊢
      clear hf hd
      subst e1 e2
      obtain ⟨kd, sr, tg, li, sq, fl, nu, er, sx, rk, eo, dt⟩ := f
      dsimp only
      repeat' first | intro h1 | intro h1 | refine Rol.aw_region_q (id := 14) [0, 0, 3, 7, 15, 0, 0, 96, 224, 480, 0, 1024, 3103, 7199, 16383, 32767] [4, 9] [some ⟨L.flatMap fmC, false, 12⟩, none, none] (by kernel_rfl) (by kernel_rfl) (by kernel_rfl) (by rfl) (by (repeat (first | exact Rol.LowR.nil | refine Rol.LowR.keep rfl ?_ | refine Rol.LowR.none ?_))) ?_ | refine Rol.qp (v := .int .i64 sr) (h := ok_load_rowcellE (f := fmC) (n := 12) b 1 (fun _ => rfl) hq rfl (by omega) rfl rfl rfl (by omega)) ?_ | refine Rol.qp (v := .int .i64 eo) (h := ok_load_rowcellE (f := fmC) (n := 12) b 10 (fun _ => rfl) hq rfl (by omega) rfl rfl rfl (by omega)) ?_ | refine sdl (v := .int .i64 sr) (h := ok_load_rowcellE (f := fmC) (n := 12) b 1 (fun _ => rfl) hq rfl (by omega) rfl rfl rfl (by omega)) ?_ | refine sdl (v := .int .i64 eo) (h := ok_load_rowcellE (f := fmC) (n := 12) b 10 (fun _ => rfl) hq rfl (by omega) rfl rfl rfl (by omega)) ?_ | refine sd (v := .int .i64 sr) (h := ok_load_rowcellE (f := fmC) (n := 12) b 1 (fun _ => rfl) hq rfl (by omega) rfl rfl rfl (by omega)) ?_ | refine sd (v := .int .i64 eo) (h := ok_load_rowcellE (f := fmC) (n := 12) b 10 (fun _ => rfl) hq rfl (by omega) rfl rfl rfl (by omega)) ?_ | refine st (v := .int .i64 sr) (h := ok_load_rowcellE (f := fmC) (n := 12) b 1 (fun _ => rfl) hq rfl (by omega) rfl rfl rfl (by omega)) ?_ | refine st (v := .int .i64 eo) (h := ok_load_rowcellE (f := fmC) (n := 12) b 10 (fun _ => rfl) hq rfl (by omega) rfl rfl rfl (by omega)) ?_ | refine Rol.qp (by first | (apply ok_move; rfl) | (apply ok_fieldAddr; rfl; rfl; infer_instance; rfl) | (apply ok_indexAddr_slice; rfl; rfl; omega)) ?_ | refine Rol.qs (by (apply ok_storeN; rfl; rfl; (focus first | ((repeat constructor); first | done | fail) | exact ListR.refl _); rfl; rfl; rfl; rfl; (focus ((repeat constructor); first | done | fail)); (focus ((repeat constructor); first | done | fail)); rfl)) ?_ | refine Rol.qnil ?_ | refine st ?_ | refine stm ?_ | refine Ja ?_ | refine Jb ?_ | refine Jc ?_ | refine Jd ?_ | refine Je ?_ | refine Jf ?_ | refine Jg ?_ | refine Jh ?_ ?_ | refine Ji ?_ ?_ | refine Jj ?_ ?_ | refine run_nil ?_ | refine sd ?_ | refine sdl ?_ | refine sdm (n := 1) ?_ | refine sdm ?_ | refine sdb ?_ | refine Jk ?_ | refine Jl ?_ | refine Jm ?_ | refine Jn ?_ ?_ | refine Jo ?_ ?_ | refine Jp ?_ ?_ | refine rund_nil ?_ | refine Jz ?_ | refine Jw ?_ | refine Jx (id := 9) [0,1,3,7,15,31,63,127,255,511,1023,1023,1023,7167,15359,32767,65535,131071] 18 ?_ | refine Jx (id := 14) [0,0,3,7,15,0,0,96,224,480,0,1024,3103,7199,16383,32767] 11 ?_ | refine aw_block ?_ | refine Jq ?_ | refine Jr ?_ | refine Js ?_ | refine Jt ?_ | refine Ju ?_ ?_ | refine Jv ?_ ?_ | refine Jy ?_ | refine aw_exit ?_ | refine aw_ret ?_ | refine pp_ret ?_ | refine pp_normal ?_
      all_goals first
        | rfl
        | (exfalso; omega)
        | (simp [retOf]; done)
        | (exfalso; simp_all; done)
        | (exfalso; simp only [Bool.not_eq_true', Bool.not_eq_false', decide_eq_true_eq, decide_eq_false_iff_not, Bool.not_false, Bool.not_true] at *; omega)
theorem ac_same0 : ACalls Tryz.prog 23 [.slice none 0 0, .slice none 0 0] [] (.bool true) [] := by
  refine acalls_law Tryz.func23 rfl rfl rfl ?_
  repeat' first | intro h1 | intro h1 | refine st ?_ | refine stm ?_ | refine Ja ?_ | refine Jb ?_ | refine Jc ?_ | refine Jd ?_ | refine Je ?_ | refine Jf ?_ | refine Jg ?_ | refine Jh ?_ ?_ | refine Ji ?_ ?_ | refine Jj ?_ ?_ | refine run_nil ?_ | refine sd ?_ | refine sdl ?_ | refine sdm (n := 1) ?_ | refine sdm ?_ | refine sdb ?_ | refine Jk ?_ | refine Jl ?_ | refine Jm ?_ | refine Jn ?_ ?_ | refine Jo ?_ ?_ | refine Jp ?_ ?_ | refine rund_nil ?_ | refine Jz ?_ | refine Jw ?_ | refine Jx (id := 6) [0,0,3,7,0,0,48,112,255] 9 ?_ | refine aw_block ?_ | refine Jq ?_ | refine Jr ?_ | refine Js ?_ | refine Jt ?_ | refine Ju ?_ ?_ | refine Jv ?_ ?_ | refine Jy ?_ | refine aw_exit ?_ | refine aw_ret ?_ | refine pp_ret ?_ | refine pp_normal ?_
  refine aw_loopg
    (S := fun y : Ki => [(0, .slice none 0 0), (1, .slice none 0 0), (5, .int .i64 0)])
    (B := fun _ : Ki => [])
    (R := fun y : Ki => True)
    (μ := fun y : Ki => 0) ⟨0⟩ (fitsD []) trivial ?_
  rintro ⟨i⟩ g1
  repeat' first | intro h1 | intro h1 | refine st ?_ | refine stm ?_ | refine Ja ?_ | refine Jb ?_ | refine Jc ?_ | refine Jd ?_ | refine Je ?_ | refine Jf ?_ | refine Jg ?_ | refine Jh ?_ ?_ | refine Ji ?_ ?_ | refine Jj ?_ ?_ | refine run_nil ?_ | refine sd ?_ | refine sdl ?_ | refine sdm (n := 1) ?_ | refine sdm ?_ | refine sdb ?_ | refine Jk ?_ | refine Jl ?_ | refine Jm ?_ | refine Jn ?_ ?_ | refine Jo ?_ ?_ | refine Jp ?_ ?_ | refine rund_nil ?_ | refine Jz ?_ | refine Jw ?_ | refine Jx (id := 6) [0,0,3,7,0,0,48,112,255] 9 ?_ | refine aw_block ?_ | refine Jq ?_ | refine Jr ?_ | refine Js ?_ | refine Jt ?_ | refine Ju ?_ ?_ | refine Jv ?_ ?_ | refine Jy ?_ | refine aw_exit ?_ | refine aw_ret ?_ | refine pp_ret ?_ | refine pp_normal ?_
  all_goals first
    | rfl
    | (exfalso; omega)
    | (simp [retOf]; done)
    | (exfalso; simp_all; done)
    | (exfalso; simp only [Bool.not_eq_true', Bool.not_eq_false', decide_eq_true_eq, decide_eq_false_iff_not, Bool.not_false, Bool.not_true] at *; omega)
set_option maxHeartbeats 4000000 in
theorem ac_same (L : List Mb) (n : Nat) (hn : L.length = n) (hb : n ≤ 1000000) : ACalls Tryz.prog 23 [.slice (some ⟨0, 0, none⟩) n n, .slice (some ⟨1, 0, none⟩) n n] [some ⟨L.flatMap mbC, false, 4⟩, some ⟨L.flatMap mbC, false, 4⟩] (.bool true) [none, none] := by
  refine acalls_law Tryz.func23 rfl rfl rfl ?_
  repeat' first | intro h1 | intro h1 | refine st ?_ | refine stm ?_ | refine Ja ?_ | refine Jb ?_ | refine Jc ?_ | refine Jd ?_ | refine Je ?_ | refine Jf ?_ | refine Jg ?_ | refine Jh ?_ ?_ | refine Ji ?_ ?_ | refine Jj ?_ ?_ | refine run_nil ?_ | refine sd ?_ | refine sdl ?_ | refine sdm (n := 1) ?_ | refine sdm ?_ | refine sdb ?_ | refine Jk ?_ | refine Jl ?_ | refine Jm ?_ | refine Jn ?_ ?_ | refine Jo ?_ ?_ | refine Jp ?_ ?_ | refine rund_nil ?_ | refine Jz ?_ | refine Jw ?_ | refine Jx (id := 6) [0,0,3,7,0,0,48,112,255] 9 ?_ | refine aw_block ?_ | refine Jq ?_ | refine Jr ?_ | refine Js ?_ | refine Jt ?_ | refine Ju ?_ ?_ | refine Jv ?_ ?_ | refine Jy ?_ | refine aw_exit ?_ | refine aw_ret ?_ | refine pp_ret ?_ | refine pp_normal ?_
  refine aw_loopg
    (S := fun y : Ki => [(0, .slice (some ⟨0, 0, none⟩) n n), (1, .slice (some ⟨1, 0, none⟩) n n), (5, .int .i64 y.i)])
    (B := fun _ : Ki => [some ⟨L.flatMap mbC, false, 4⟩, some ⟨L.flatMap mbC, false, 4⟩])
    (R := fun y : Ki => y.i ≤ n)
    (μ := fun y : Ki => n - y.i) ⟨0⟩ (fitsD [0, 1]) (Nat.zero_le _) ?_
  rintro ⟨i⟩ g1
  dsimp only at g1 ⊢
  by_cases hi : i < n
  · obtain ⟨⟨nm, sec, nd, no⟩, hq⟩ : ∃ m, L[i]? = some m := ⟨_, List.getElem?_eq_getElem (by omega)⟩
    repeat' first | intro h1 | intro h1 | refine sdl (h := ok_load_rowsE (f := mbC) (cs := [.string nm, .string sec, .int .i64 nd, .int .i64 no]) i (fun _ => rfl) hq rfl rfl rfl rfl (by omega)) ?_ | refine sd (h := ok_load_rowsE (f := mbC) (cs := [.string nm, .string sec, .int .i64 nd, .int .i64 no]) i (fun _ => rfl) hq rfl rfl rfl rfl (by omega)) ?_ | refine st (h := ok_load_rowsE (f := mbC) (cs := [.string nm, .string sec, .int .i64 nd, .int .i64 no]) i (fun _ => rfl) hq rfl rfl rfl rfl (by omega)) ?_ | refine st ?_ | refine stm ?_ | refine Ja ?_ | refine Jb ?_ | refine Jc ?_ | refine Jd ?_ | refine Je ?_ | refine Jf ?_ | refine Jg ?_ | refine Jh ?_ ?_ | refine Ji ?_ ?_ | refine Jj ?_ ?_ | refine run_nil ?_ | refine sd ?_ | refine sdl ?_ | refine sdm (n := 1) ?_ | refine sdm ?_ | refine sdb ?_ | refine Jk ?_ | refine Jl ?_ | refine Jm ?_ | refine Jn ?_ ?_ | refine Jo ?_ ?_ | refine Jp ?_ ?_ | refine rund_nil ?_ | refine Jz ?_ | refine Jw ?_ | refine Jx (id := 6) [0,0,3,7,0,0,48,112,255] 9 ?_ | refine aw_block ?_ | refine Jq ?_ | refine Jr ?_ | refine Js ?_ | refine Jt ?_ | refine Ju ?_ ?_ | refine Jv ?_ ?_ | refine Jy ?_ | refine aw_exit ?_ | refine aw_ret ?_ | refine pp_ret ?_ | refine pp_normal ?_
    all_goals first | exact Exists.intro ⟨i + 1⟩ ⟨fitsD [0, 1], hi, by dsimp only; omega⟩ | (exfalso; omega) | exact absurd ⟨rfl, rfl, rfl, rfl, trivial⟩ h1 | (exfalso; first | (simp_all; done) | (simp_all; omega))
  · obtain rfl : i = n := by omega
    repeat' first | intro h1 | intro h1 | refine st ?_ | refine stm ?_ | refine Ja ?_ | refine Jb ?_ | refine Jc ?_ | refine Jd ?_ | refine Je ?_ | refine Jf ?_ | refine Jg ?_ | refine Jh ?_ ?_ | refine Ji ?_ ?_ | refine Jj ?_ ?_ | refine run_nil ?_ | refine sd ?_ | refine sdl ?_ | refine sdm (n := 1) ?_ | refine sdm ?_ | refine sdb ?_ | refine Jk ?_ | refine Jl ?_ | refine Jm ?_ | refine Jn ?_ ?_ | refine Jo ?_ ?_ | refine Jp ?_ ?_ | refine rund_nil ?_ | refine Jz ?_ | refine Jw ?_ | refine Jx (id := 6) [0,0,3,7,0,0,48,112,255] 9 ?_ | refine aw_block ?_ | refine Jq ?_ | refine Jr ?_ | refine Js ?_ | refine Jt ?_ | refine Ju ?_ ?_ | refine Jv ?_ ?_ | refine Jy ?_ | refine aw_exit ?_ | refine aw_ret ?_ | refine pp_ret ?_ | refine pp_normal ?_
    all_goals first
      | rfl
      | (exfalso; omega)
      | (simp [retOf]; done)
      | (exfalso; simp_all; done)
      | (exfalso; simp only [Bool.not_eq_true', Bool.not_eq_false', decide_eq_true_eq, decide_eq_false_iff_not, Bool.not_false, Bool.not_true] at *; omega)
set_option maxHeartbeats 4000000 in
theorem ac_Few (L : List Mb) (n : Nat) (hn : L.length = n) : ∃ x : Bool, (x = true → n ≤ 40) ∧ ACalls Tryz.prog 18 [.slice (some ⟨0, 0, none⟩) n n] [some ⟨L.flatMap mbC, false, 4⟩] (.bool x) [none] := by
  by_cases hw : ∀ i, i < n → i < 40 → ∀ m, L[i]? = some m → m.nm.size ≤ 60 ∧ m.sec.size ≤ 60
  · refine ⟨decide (n ≤ 40), fun h => of_decide_eq_true h, ?_⟩
    refine acalls_law Tryz.func18 rfl rfl rfl ?_
    repeat' first | intro h1 | intro h1 | refine st ?_ | refine stm ?_ | refine Ja ?_ | refine Jb ?_ | refine Jc ?_ | refine Jd ?_ | refine Je ?_ | refine Jf ?_ | refine Jg ?_ | refine Jh ?_ ?_ | refine Ji ?_ ?_ | refine Jj ?_ ?_ | refine run_nil ?_ | refine Jz ?_ | refine Jw ?_ | refine aw_block ?_ | refine Jq ?_ | refine Jr ?_ | refine Js ?_ | refine Jt ?_ | refine Ju ?_ ?_ | refine Jv ?_ ?_ | refine Jy ?_ | refine aw_exit ?_ | refine aw_ret ?_ | refine pp_ret ?_ | refine pp_normal ?_
    refine aw_loopg
      (S := fun y : Ki => [(0, .slice (some ⟨0, 0, none⟩) n n), (3, .int .i64 y.i)])
      (B := fun _ : Ki => [some ⟨L.flatMap mbC, false, 4⟩])
      (R := fun y : Ki => y.i ≤ n ∧ y.i ≤ 40)
      (μ := fun y : Ki => n - y.i) ⟨0⟩ (fitsD [0]) ⟨Nat.zero_le _, Nat.zero_le _⟩ ?_
    rintro ⟨i⟩ ⟨g1, g2⟩
    dsimp only at g1 g2 ⊢
    by_cases hi : i < n ∧ i < 40
    · obtain ⟨hi, hi2⟩ := hi
      obtain ⟨⟨nm, sec, nd, no⟩, hq⟩ : ∃ m, L[i]? = some m := ⟨_, List.getElem?_eq_getElem (by omega)⟩
      obtain ⟨k1, k2⟩ := hw i hi hi2 _ hq
      dsimp only at k1 k2
      clear hw
      repeat' first | intro h1 | intro h1 | refine sdl (v := .string nm) (h := ok_load_rowcellE (f := mbC) (n := 4) i 0 (fun _ => rfl) hq rfl (by omega) rfl rfl rfl (by omega)) ?_ | refine sd (v := .string nm) (h := ok_load_rowcellE (f := mbC) (n := 4) i 0 (fun _ => rfl) hq rfl (by omega) rfl rfl rfl (by omega)) ?_ | refine st (v := .string nm) (h := ok_load_rowcellE (f := mbC) (n := 4) i 0 (fun _ => rfl) hq rfl (by omega) rfl rfl rfl (by omega)) ?_ | refine sdl (v := .string sec) (h := ok_load_rowcellE (f := mbC) (n := 4) i 1 (fun _ => rfl) hq rfl (by omega) rfl rfl rfl (by omega)) ?_ | refine sd (v := .string sec) (h := ok_load_rowcellE (f := mbC) (n := 4) i 1 (fun _ => rfl) hq rfl (by omega) rfl rfl rfl (by omega)) ?_ | refine st (v := .string sec) (h := ok_load_rowcellE (f := mbC) (n := 4) i 1 (fun _ => rfl) hq rfl (by omega) rfl rfl rfl (by omega)) ?_ | refine st ?_ | refine stm ?_ | refine Ja ?_ | refine Jb ?_ | refine Jc ?_ | refine Jd ?_ | refine Je ?_ | refine Jf ?_ | refine Jg ?_ | refine Jh ?_ ?_ | refine Ji ?_ ?_ | refine Jj ?_ ?_ | refine run_nil ?_ | refine Jz ?_ | refine Jw ?_ | refine aw_block ?_ | refine Jq ?_ | refine Jr ?_ | refine Js ?_ | refine Jt ?_ | refine Ju ?_ ?_ | refine Jv ?_ ?_ | refine Jy ?_ | refine aw_exit ?_ | refine aw_ret ?_ | refine pp_ret ?_ | refine pp_normal ?_
      all_goals first | exact Exists.intro ⟨i + 1⟩ ⟨fitsD [0], ⟨hi, hi2⟩, by dsimp only; omega⟩ | (exfalso; omega)
    · clear hw
      repeat' first | intro h1 | intro h1 | refine st ?_ | refine stm ?_ | refine Ja ?_ | refine Jb ?_ | refine Jc ?_ | refine Jd ?_ | refine Je ?_ | refine Jf ?_ | refine Jg ?_ | refine Jh ?_ ?_ | refine Ji ?_ ?_ | refine Jj ?_ ?_ | refine run_nil ?_ | refine Jz ?_ | refine Jw ?_ | refine aw_block ?_ | refine Jq ?_ | refine Jr ?_ | refine Js ?_ | refine Jt ?_ | refine Ju ?_ ?_ | refine Jv ?_ ?_ | refine Jy ?_ | refine aw_exit ?_ | refine aw_ret ?_ | refine pp_ret ?_ | refine pp_normal ?_
      all_goals first | (exfalso; omega) | exact congrArg Value.bool (decide_eq_decide.2 (by omega)) | (show Value.bool _ = Value.bool _; congr 1; first | exact (decide_eq_true (by omega)).symm | exact (decide_eq_false (by omega)).symm | exact decide_eq_decide.2 (by omega))
  · have hw' : ∃ k, k < n ∧ k < 40 ∧ (∀ j, j < k → ∀ m, L[j]? = some m → m.nm.size ≤ 60 ∧ m.sec.size ≤ 60) ∧ ∃ m, L[k]? = some m ∧ ¬ (m.nm.size ≤ 60 ∧ m.sec.size ≤ 60) := by
      refine Classical.byContradiction fun hno => hw ?_
      intro i
      induction i using Nat.strongRecOn with
      | ind i ih =>
        intro h1 h2 m hm
        refine Classical.byContradiction fun hbad => hno ⟨i, h1, h2, fun j hj m' hm' => ih j hj (by omega) (by omega) m' hm', m, hm, hbad⟩
    obtain ⟨k, hk1, hk2, hk3, ⟨nm', sec', nd', no'⟩, hqk, hbad⟩ := hw'
    clear hw
    refine ⟨false, (fun h => by cases h), ?_⟩
    refine acalls_law Tryz.func18 rfl rfl rfl ?_
    repeat' first | intro h1 | intro h1 | refine st ?_ | refine stm ?_ | refine Ja ?_ | refine Jb ?_ | refine Jc ?_ | refine Jd ?_ | refine Je ?_ | refine Jf ?_ | refine Jg ?_ | refine Jh ?_ ?_ | refine Ji ?_ ?_ | refine Jj ?_ ?_ | refine run_nil ?_ | refine Jz ?_ | refine Jw ?_ | refine aw_block ?_ | refine Jq ?_ | refine Jr ?_ | refine Js ?_ | refine Jt ?_ | refine Ju ?_ ?_ | refine Jv ?_ ?_ | refine Jy ?_ | refine aw_exit ?_ | refine aw_ret ?_ | refine pp_ret ?_ | refine pp_normal ?_
    refine aw_loopg
      (S := fun y : Ki => [(0, .slice (some ⟨0, 0, none⟩) n n), (3, .int .i64 y.i)])
      (B := fun _ : Ki => [some ⟨L.flatMap mbC, false, 4⟩])
      (R := fun y : Ki => y.i ≤ k)
      (μ := fun y : Ki => n - y.i) ⟨0⟩ (fitsD [0]) (Nat.zero_le _) ?_
    rintro ⟨i⟩ g1
    dsimp only at g1 hbad ⊢
    by_cases hi : i < k
    · obtain ⟨⟨nm, sec, nd, no⟩, hq⟩ : ∃ m, L[i]? = some m := ⟨_, List.getElem?_eq_getElem (by omega)⟩
      obtain ⟨k1, k2⟩ := hk3 i hi _ hq
      dsimp only at k1 k2
      clear hk3
      repeat' first | intro h1 | intro h1 | refine sdl (v := .string nm) (h := ok_load_rowcellE (f := mbC) (n := 4) i 0 (fun _ => rfl) hq rfl (by omega) rfl rfl rfl (by omega)) ?_ | refine sd (v := .string nm) (h := ok_load_rowcellE (f := mbC) (n := 4) i 0 (fun _ => rfl) hq rfl (by omega) rfl rfl rfl (by omega)) ?_ | refine st (v := .string nm) (h := ok_load_rowcellE (f := mbC) (n := 4) i 0 (fun _ => rfl) hq rfl (by omega) rfl rfl rfl (by omega)) ?_ | refine sdl (v := .string sec) (h := ok_load_rowcellE (f := mbC) (n := 4) i 1 (fun _ => rfl) hq rfl (by omega) rfl rfl rfl (by omega)) ?_ | refine sd (v := .string sec) (h := ok_load_rowcellE (f := mbC) (n := 4) i 1 (fun _ => rfl) hq rfl (by omega) rfl rfl rfl (by omega)) ?_ | refine st (v := .string sec) (h := ok_load_rowcellE (f := mbC) (n := 4) i 1 (fun _ => rfl) hq rfl (by omega) rfl rfl rfl (by omega)) ?_ | refine st ?_ | refine stm ?_ | refine Ja ?_ | refine Jb ?_ | refine Jc ?_ | refine Jd ?_ | refine Je ?_ | refine Jf ?_ | refine Jg ?_ | refine Jh ?_ ?_ | refine Ji ?_ ?_ | refine Jj ?_ ?_ | refine run_nil ?_ | refine Jz ?_ | refine Jw ?_ | refine aw_block ?_ | refine Jq ?_ | refine Jr ?_ | refine Js ?_ | refine Jt ?_ | refine Ju ?_ ?_ | refine Jv ?_ ?_ | refine Jy ?_ | refine aw_exit ?_ | refine aw_ret ?_ | refine pp_ret ?_ | refine pp_normal ?_
      all_goals first | exact Exists.intro ⟨i + 1⟩ ⟨fitsD [0], hi, by dsimp only; omega⟩ | (exfalso; omega)
    · obtain rfl : i = k := by omega
      clear hk3
      by_cases hb1 : nm'.size ≤ 60
      · have hb2 : 60 < sec'.size := by omega
        clear hbad
        repeat' first | intro h1 | intro h1 | refine sdl (v := .string nm') (h := ok_load_rowcellE (f := mbC) (n := 4) i 0 (fun _ => rfl) hqk rfl (by omega) rfl rfl rfl (by omega)) ?_ | refine sd (v := .string nm') (h := ok_load_rowcellE (f := mbC) (n := 4) i 0 (fun _ => rfl) hqk rfl (by omega) rfl rfl rfl (by omega)) ?_ | refine st (v := .string nm') (h := ok_load_rowcellE (f := mbC) (n := 4) i 0 (fun _ => rfl) hqk rfl (by omega) rfl rfl rfl (by omega)) ?_ | refine sdl (v := .string sec') (h := ok_load_rowcellE (f := mbC) (n := 4) i 1 (fun _ => rfl) hqk rfl (by omega) rfl rfl rfl (by omega)) ?_ | refine sd (v := .string sec') (h := ok_load_rowcellE (f := mbC) (n := 4) i 1 (fun _ => rfl) hqk rfl (by omega) rfl rfl rfl (by omega)) ?_ | refine st (v := .string sec') (h := ok_load_rowcellE (f := mbC) (n := 4) i 1 (fun _ => rfl) hqk rfl (by omega) rfl rfl rfl (by omega)) ?_ | refine st ?_ | refine stm ?_ | refine Ja ?_ | refine Jb ?_ | refine Jc ?_ | refine Jd ?_ | refine Je ?_ | refine Jf ?_ | refine Jg ?_ | refine Jh ?_ ?_ | refine Ji ?_ ?_ | refine Jj ?_ ?_ | refine run_nil ?_ | refine Jz ?_ | refine Jw ?_ | refine aw_block ?_ | refine Jq ?_ | refine Jr ?_ | refine Js ?_ | refine Jt ?_ | refine Ju ?_ ?_ | refine Jv ?_ ?_ | refine Jy ?_ | refine aw_exit ?_ | refine aw_ret ?_ | refine pp_ret ?_ | refine pp_normal ?_
        all_goals first
          | rfl
          | (exfalso; omega)
          | (simp [retOf]; done)
          | (exfalso; simp_all; done)
          | (exfalso; simp only [Bool.not_eq_true', Bool.not_eq_false', decide_eq_true_eq, decide_eq_false_iff_not, Bool.not_false, Bool.not_true] at *; omega)
      · clear hbad
        repeat' first | intro h1 | intro h1 | refine sdl (v := .string nm') (h := ok_load_rowcellE (f := mbC) (n := 4) i 0 (fun _ => rfl) hqk rfl (by omega) rfl rfl rfl (by omega)) ?_ | refine sd (v := .string nm') (h := ok_load_rowcellE (f := mbC) (n := 4) i 0 (fun _ => rfl) hqk rfl (by omega) rfl rfl rfl (by omega)) ?_ | refine st (v := .string nm') (h := ok_load_rowcellE (f := mbC) (n := 4) i 0 (fun _ => rfl) hqk rfl (by omega) rfl rfl rfl (by omega)) ?_ | refine sdl (v := .string sec') (h := ok_load_rowcellE (f := mbC) (n := 4) i 1 (fun _ => rfl) hqk rfl (by omega) rfl rfl rfl (by omega)) ?_ | refine sd (v := .string sec') (h := ok_load_rowcellE (f := mbC) (n := 4) i 1 (fun _ => rfl) hqk rfl (by omega) rfl rfl rfl (by omega)) ?_ | refine st (v := .string sec') (h := ok_load_rowcellE (f := mbC) (n := 4) i 1 (fun _ => rfl) hqk rfl (by omega) rfl rfl rfl (by omega)) ?_ | refine st ?_ | refine stm ?_ | refine Ja ?_ | refine Jb ?_ | refine Jc ?_ | refine Jd ?_ | refine Je ?_ | refine Jf ?_ | refine Jg ?_ | refine Jh ?_ ?_ | refine Ji ?_ ?_ | refine Jj ?_ ?_ | refine run_nil ?_ | refine Jz ?_ | refine Jw ?_ | refine aw_block ?_ | refine Jq ?_ | refine Jr ?_ | refine Js ?_ | refine Jt ?_ | refine Ju ?_ ?_ | refine Jv ?_ ?_ | refine Jy ?_ | refine aw_exit ?_ | refine aw_ret ?_ | refine pp_ret ?_ | refine pp_normal ?_
        all_goals first
          | rfl
          | (exfalso; omega)
          | (simp [retOf]; done)
          | (exfalso; simp_all; done)
          | (exfalso; simp only [Bool.not_eq_true', Bool.not_eq_false', decide_eq_true_eq, decide_eq_false_iff_not, Bool.not_false, Bool.not_true] at *; omega)
end Go.Proofs.YtdbcbclapipgdaaGreatDoor
