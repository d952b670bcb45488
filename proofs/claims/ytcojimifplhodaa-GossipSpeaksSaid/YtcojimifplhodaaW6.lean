/- The example of the chapter: awake returns true. -/
import Derived.Test.YtcojimifplhodaaW5
namespace Go.Proofs.Ytcojimifplhodaa
open Go.RowKit
theorem aw1 (w : World) : Calls Try.prog 10 #[.agg #[.int .i64 4, .int .i64 2, .int .i64 1], .int .i64 10, .int .u32 5] w (Ret (.tuple #[.agg #[.int .i64 4, .int .i64 10, .int .i64 13, .int .i64 0], .int .i64 0]) w) := by
  have h := Start_any 4 2 1 10 5 w (by decide) (by decide)
  rw [show stR 4 2 1 10 5 = ⟨4, 10, 13, 0⟩ from by decide, show stE 4 2 1 10 = 0 from by decide] at h
  exact h
theorem aw2 (w : World) : Calls Try.prog 12 #[.agg #[.int .i64 4, .int .i64 2, .int .i64 1], .agg #[.int .i64 4, .int .i64 10, .int .i64 13, .int .i64 0], .int .i64 13, .int .u32 0] w (Ret (.tuple #[.agg #[.int .i64 4, .int .i64 10, .int .i64 13, .int .i64 0], .bool true, .int .i64 0]) w) := by
  have h := Step_any 4 2 1 4 10 13 0 13 0 w (by decide) (by decide)
  rw [show spR 4 2 1 ⟨4, 10, 13, 0⟩ 13 0 = ⟨4, 10, 13, 0⟩ from by decide, show spB 4 2 1 ⟨4, 10, 13, 0⟩ 13 0 = true from by decide, show cE 4 2 1 ⟨4, 10, 13, 0⟩ 13 = 0 from by decide] at h
  exact h
theorem aw3 (w : World) : Calls Try.prog 14 #[.agg #[.int .i64 4, .int .i64 2, .int .i64 1], .agg #[.int .i64 4, .int .i64 10, .int .i64 13, .int .i64 0], .bool true, .int .i64 12, .int .u32 0] w (Ret (.tuple #[.agg #[.int .i64 4, .int .i64 10, .int .i64 13, .int .i64 1], .int .i64 0]) w) := by
  have h := Hear_any 4 2 1 4 10 13 0 12 0 true w (by decide) (by decide)
  rw [show hrR 4 2 1 ⟨4, 10, 13, 0⟩ true 12 0 = ⟨4, 10, 13, 1⟩ from by decide, show cE 4 2 1 ⟨4, 10, 13, 0⟩ 12 = 0 from by decide] at h
  exact h
theorem aw4 (w : World) : Calls Try.prog 12 #[.agg #[.int .i64 4, .int .i64 2, .int .i64 1], .agg #[.int .i64 4, .int .i64 10, .int .i64 13, .int .i64 1], .int .i64 13, .int .u32 0] w (Ret (.tuple #[.agg #[.int .i64 4, .int .i64 10, .int .i64 13, .int .i64 1], .bool false, .int .i64 0]) w) := by
  have h := Step_any 4 2 1 4 10 13 1 13 0 w (by decide) (by decide)
  rw [show spR 4 2 1 ⟨4, 10, 13, 1⟩ 13 0 = ⟨4, 10, 13, 1⟩ from by decide, show spB 4 2 1 ⟨4, 10, 13, 1⟩ 13 0 = false from by decide, show cE 4 2 1 ⟨4, 10, 13, 1⟩ 13 = 0 from by decide] at h
  exact h
theorem aw5 (w : World) : Calls Try.prog 12 #[.agg #[.int .i64 4, .int .i64 2, .int .i64 1], .agg #[.int .i64 4, .int .i64 10, .int .i64 13, .int .i64 0], .int .i64 14, .int .u32 1] w (Ret (.tuple #[.agg #[.int .i64 8, .int .i64 14, .int .i64 19, .int .i64 0], .bool false, .int .i64 0]) w) := by
  have h := Step_any 4 2 1 4 10 13 0 14 1 w (by decide) (by decide)
  rw [show spR 4 2 1 ⟨4, 10, 13, 0⟩ 14 1 = ⟨8, 14, 19, 0⟩ from by decide, show spB 4 2 1 ⟨4, 10, 13, 0⟩ 14 1 = false from by decide, show cE 4 2 1 ⟨4, 10, 13, 0⟩ 14 = 0 from by decide] at h
  exact h
theorem aw6 (w : World) : Calls Try.prog 17 #[.agg #[.int .i64 4, .int .i64 2, .int .i64 1]] w (Ret (.int .i64 16) w) := Greatest_any 4 2 1 w (by decide)
set_option maxHeartbeats 3200000 in
theorem awake_true (w : World) : Calls Try.prog 9 #[] w (Ret (.bool true) w) := by
  go_enter Try.func9, Try.ntmps9
  go_wp2_with (first
    | (go_at_call 10; (with_reducible refine (aw1 _).mono ?_); rintro e w1 ⟨rfl, hb1⟩; obtain ⟨hc1, hf1⟩ := bcell hb1; have hB1 : Below w.heap.size w w1 := bl1 hb1; have hz1 : w.heap.size + 1 ≤ w1.heap.size := (by have := hb1.size; simp at this; omega); have hl0_1 : w.heap.size < w1.heap.size := (by omega); have c1 : At3 w1 (w.heap.size) (.int .i64 4) (.int .i64 2) (.int .i64 1) := ⟨by simp [go_sem, hc1], by simp [go_sem, hc1], by simp [go_sem, hc1]⟩; obtain ⟨c1_0, c1_1, c1_2⟩ := id c1)
    | (go_at_call 12; (with_reducible refine (aw2 _).mono ?_); rintro e w2 ⟨rfl, hb2⟩; obtain ⟨hc2, hf2⟩ := bcell hb2; have hB2 : Below w1.heap.size w1 w2 := bl1 hb2; have hz2 : w1.heap.size + 1 ≤ w2.heap.size := (by have := hb2.size; simp at this; omega); have hl0_2 : w.heap.size < w2.heap.size := (by omega); have hl1_2 : w1.heap.size < w2.heap.size := (by omega); have c2 := c1.keep hB2 (by omega); obtain ⟨c2_0, c2_1, c2_2⟩ := id c2; have r12 : At4 w2 (w1.heap.size) (.int .i64 4) (.int .i64 10) (.int .i64 13) (.int .i64 0) := ⟨by simp [go_sem, hc2], by simp [go_sem, hc2], by simp [go_sem, hc2], by simp [go_sem, hc2]⟩; obtain ⟨r12_0, r12_1, r12_2, r12_3⟩ := id r12)
    | (go_at_call 14; (with_reducible refine (aw3 _).mono ?_); rintro e w3 ⟨rfl, hb3⟩; obtain ⟨hc3, hf3⟩ := bcell hb3; have hB3 : Below w2.heap.size w2 w3 := bl1 hb3; have hz3 : w2.heap.size + 1 ≤ w3.heap.size := (by have := hb3.size; simp at this; omega); have hl0_3 : w.heap.size < w3.heap.size := (by omega); have hl1_3 : w1.heap.size < w3.heap.size := (by omega); have hl2_3 : w2.heap.size < w3.heap.size := (by omega); have c3 := c2.keep hB3 (by omega); obtain ⟨c3_0, c3_1, c3_2⟩ := id c3; have r13 := r12.keep hB3 (by omega); obtain ⟨r13_0, r13_1, r13_2, r13_3⟩ := id r13; have r23 : At4 w3 (w2.heap.size) (.int .i64 4) (.int .i64 10) (.int .i64 13) (.int .i64 0) := ⟨by simp [go_sem, hc3], by simp [go_sem, hc3], by simp [go_sem, hc3], by simp [go_sem, hc3]⟩; obtain ⟨r23_0, r23_1, r23_2, r23_3⟩ := id r23)
    | (go_at_call 12; (with_reducible refine (aw4 _).mono ?_); rintro e w4 ⟨rfl, hb4⟩; obtain ⟨hc4, hf4⟩ := bcell hb4; have hB4 : Below w3.heap.size w3 w4 := bl1 hb4; have hz4 : w3.heap.size + 1 ≤ w4.heap.size := (by have := hb4.size; simp at this; omega); have hl0_4 : w.heap.size < w4.heap.size := (by omega); have hl1_4 : w1.heap.size < w4.heap.size := (by omega); have hl2_4 : w2.heap.size < w4.heap.size := (by omega); have hl3_4 : w3.heap.size < w4.heap.size := (by omega); have c4 := c3.keep hB4 (by omega); obtain ⟨c4_0, c4_1, c4_2⟩ := id c4; have r14 := r13.keep hB4 (by omega); obtain ⟨r14_0, r14_1, r14_2, r14_3⟩ := id r14; have r24 := r23.keep hB4 (by omega); obtain ⟨r24_0, r24_1, r24_2, r24_3⟩ := id r24; have r34 : At4 w4 (w3.heap.size) (.int .i64 4) (.int .i64 10) (.int .i64 13) (.int .i64 1) := ⟨by simp [go_sem, hc4], by simp [go_sem, hc4], by simp [go_sem, hc4], by simp [go_sem, hc4]⟩; obtain ⟨r34_0, r34_1, r34_2, r34_3⟩ := id r34)
    | (go_at_call 12; (with_reducible refine (aw5 _).mono ?_); rintro e w5 ⟨rfl, hb5⟩; obtain ⟨hc5, hf5⟩ := bcell hb5; have hB5 : Below w4.heap.size w4 w5 := bl1 hb5; have hz5 : w4.heap.size + 1 ≤ w5.heap.size := (by have := hb5.size; simp at this; omega); have hl0_5 : w.heap.size < w5.heap.size := (by omega); have hl1_5 : w1.heap.size < w5.heap.size := (by omega); have hl2_5 : w2.heap.size < w5.heap.size := (by omega); have hl3_5 : w3.heap.size < w5.heap.size := (by omega); have hl4_5 : w4.heap.size < w5.heap.size := (by omega); have c5 := c4.keep hB5 (by omega); obtain ⟨c5_0, c5_1, c5_2⟩ := id c5; have r15 := r14.keep hB5 (by omega); obtain ⟨r15_0, r15_1, r15_2, r15_3⟩ := id r15; have r25 := r24.keep hB5 (by omega); obtain ⟨r25_0, r25_1, r25_2, r25_3⟩ := id r25; have r35 := r34.keep hB5 (by omega); obtain ⟨r35_0, r35_1, r35_2, r35_3⟩ := id r35; have r45 : At4 w5 (w4.heap.size) (.int .i64 4) (.int .i64 10) (.int .i64 13) (.int .i64 1) := ⟨by simp [go_sem, hc5], by simp [go_sem, hc5], by simp [go_sem, hc5], by simp [go_sem, hc5]⟩; obtain ⟨r45_0, r45_1, r45_2, r45_3⟩ := id r45)
    | (go_at_call 17; (with_reducible refine (aw6 _).mono ?_); rintro e w6 ⟨rfl, hb6⟩; have hB6 : Below w5.heap.size w5 w6 := bl1 hb6))
  go_ret
  exact ⟨rfl, bt (bt (bt (bt (bt hB1 hB2) hB3) hB4) hB5) hB6⟩
end Go.Proofs.Ytcojimifplhodaa
