/- chargeparklaw41.changed: one number of a record is changed by exclusive or. -/
import Derived.Test.YtenkffjlpdappaaHBox
import Derived.Laws.BitsLemmas
namespace Go.Proofs.Ytenkffjlpdappaa.Pr
open Go.RowKit Go.Proofs.YtenkffjlpdappaaW.PrintWords Go.Proofs.YtenkffjlpdappaaW.PrintLast Go.Proofs.YtenkffjlpdappaaW.PrintMore
set_option linter.unusedVariables false
set_option linter.unusedSimpArgs false

def chargeparklaw41_changed.f (a0_0 a0_1 a0_2 a0_3 a0_4 a0_5 a0_6 a0_7 a0_8 a0_9 a0_10 a0_11 a0_12 a1 a2 : Int) : Option (Int × Int × Int × Int × Int × Int × Int × Int × Int × Int × Int × Int × Int) := if 0 ≤ a1 ∧ a1 < 256 then (if a1 % 9 = 0 then some (Go.bits .xor .i64 a0_0 a2, a0_1, a0_2, a0_3, a0_4, a0_5, a0_6, a0_7, a0_8, a0_9, a0_10, a0_11, a0_12) else if a1 % 9 = 1 then some (a0_0, Go.bits .xor .i64 a0_1 a2, a0_2, a0_3, a0_4, a0_5, a0_6, a0_7, a0_8, a0_9, a0_10, a0_11, a0_12) else if a1 % 9 = 2 then some (a0_0, a0_1, Go.bits .xor .i64 a0_2 a2, a0_3, a0_4, a0_5, a0_6, a0_7, a0_8, a0_9, a0_10, a0_11, a0_12) else if a1 % 9 = 3 then some (a0_0, a0_1, a0_2, Go.bits .xor .i64 a0_3 a2, a0_4, a0_5, a0_6, a0_7, a0_8, a0_9, a0_10, a0_11, a0_12) else if a1 % 9 = 4 then some (a0_0, a0_1, a0_2, a0_3, Go.bits .xor .i64 a0_4 a2, a0_5, a0_6, a0_7, a0_8, a0_9, a0_10, a0_11, a0_12) else if a1 % 9 = 5 then some (a0_0, a0_1, a0_2, a0_3, a0_4, Go.bits .xor .i64 a0_5 a2, a0_6, a0_7, a0_8, a0_9, a0_10, a0_11, a0_12) else if a1 % 9 = 6 then some (a0_0, a0_1, a0_2, a0_3, a0_4, a0_5, Go.bits .xor .i64 a0_6 a2, a0_7, a0_8, a0_9, a0_10, a0_11, a0_12) else if a1 % 9 = 7 then some (a0_0, a0_1, a0_2, a0_3, a0_4, a0_5, a0_6, Go.bits .xor .i64 a0_7 a2, a0_8, a0_9, a0_10, a0_11, a0_12) else some (a0_0, a0_1, a0_2, a0_3, a0_4, a0_5, a0_6, a0_7, Go.bits .xor .i64 a0_8 a2, a0_9, a0_10, a0_11, a0_12)) else none
set_option maxRecDepth 1000000 in
set_option maxHeartbeats 8000000 in
theorem chargeparklaw41_changed.calls (a0_0 a0_1 a0_2 a0_3 a0_4 a0_5 a0_6 a0_7 a0_8 a0_9 a0_10 a0_11 a0_12 a1 a2 r1 r2 r3 r4 r5 r6 r7 r8 r9 r10 r11 r12 r13 : Int) (w : World) (h : chargeparklaw41_changed.f a0_0 a0_1 a0_2 a0_3 a0_4 a0_5 a0_6 a0_7 a0_8 a0_9 a0_10 a0_11 a0_12 a1 a2 = some (r1, r2, r3, r4, r5, r6, r7, r8, r9, r10, r11, r12, r13)) :
    Calls Try.prog 26 #[.agg #[.int .i64 a0_0, .int .i64 a0_1, .int .i64 a0_2, .int .i64 a0_3, .int .i64 a0_4, .int .i64 a0_5, .int .i64 a0_6, .int .i64 a0_7, .int .i64 a0_8, .int .u64 a0_9, .int .u64 a0_10, .int .u64 a0_11, .int .u64 a0_12], .int .u8 a1, .int .i64 a2] w fun e w' => e = .returned (.agg #[.int .i64 r1, .int .i64 r2, .int .i64 r3, .int .i64 r4, .int .i64 r5, .int .i64 r6, .int .i64 r7, .int .i64 r8, .int .i64 r9, .int .u64 r10, .int .u64 r11, .int .u64 r12, .int .u64 r13]) ∧ Below w.heap.size w w' := by
  have hu := Try.underlying25
  unfold chargeparklaw41_changed.f at h
  by_cases hb : 0 ≤ a1 ∧ a1 < 256
  rotate_left
  · rw [if_neg hb] at h; exact absurd h (by simp)
  rw [if_pos hb] at h
  obtain ⟨hb0, hb1⟩ := hb
  by_cases g0 : a1 % 9 = 0
  · rw [if_pos g0] at h
    simp only [Option.some.injEq, Prod.mk.injEq] at h
    obtain ⟨rfl, rfl, rfl, rfl, rfl, rfl, rfl, rfl, rfl, rfl, rfl, rfl, rfl⟩ := h
    have g0b : Int.tmod a1 9 = 0 := (Int.tmod_eq_emod_of_nonneg hb0).trans g0
    go_enter Try.func26, Try.ntmps26
    go_wp2
    exact bodyPost_ret (results_cell_row rfl _ _ (w.heap.size + 1) 25 _ (0, 0) _ rfl ((Below.heap_alloc _ _ _ (by simp)).trans (second_box _ _ _)) Try.underlying25 rfl (by kernel_rfl)) rfl ⟨rfl, (((Below.refl _ _).alloc (Nat.le_refl _) _).alloc (by simp) _).alloc (by simp; omega) _⟩
  rw [if_neg g0] at h
  by_cases g1 : a1 % 9 = 1
  · rw [if_pos g1] at h
    simp only [Option.some.injEq, Prod.mk.injEq] at h
    obtain ⟨rfl, rfl, rfl, rfl, rfl, rfl, rfl, rfl, rfl, rfl, rfl, rfl, rfl⟩ := h
    clear g0
    have g1b : Int.tmod a1 9 = 1 := (Int.tmod_eq_emod_of_nonneg hb0).trans g1
    go_enter Try.func26, Try.ntmps26
    go_wp2
    exact bodyPost_ret (results_cell_row rfl _ _ (w.heap.size + 1) 25 _ (0, 0) _ rfl ((Below.heap_alloc _ _ _ (by simp)).trans (second_box _ _ _)) Try.underlying25 rfl (by kernel_rfl)) rfl ⟨rfl, (((Below.refl _ _).alloc (Nat.le_refl _) _).alloc (by simp) _).alloc (by simp; omega) _⟩
  rw [if_neg g1] at h
  by_cases g2 : a1 % 9 = 2
  · rw [if_pos g2] at h
    simp only [Option.some.injEq, Prod.mk.injEq] at h
    obtain ⟨rfl, rfl, rfl, rfl, rfl, rfl, rfl, rfl, rfl, rfl, rfl, rfl, rfl⟩ := h
    clear g0
    clear g1
    have g2b : Int.tmod a1 9 = 2 := (Int.tmod_eq_emod_of_nonneg hb0).trans g2
    go_enter Try.func26, Try.ntmps26
    go_wp2
    exact bodyPost_ret (results_cell_row rfl _ _ (w.heap.size + 1) 25 _ (0, 0) _ rfl ((Below.heap_alloc _ _ _ (by simp)).trans (second_box _ _ _)) Try.underlying25 rfl (by kernel_rfl)) rfl ⟨rfl, (((Below.refl _ _).alloc (Nat.le_refl _) _).alloc (by simp) _).alloc (by simp; omega) _⟩
  rw [if_neg g2] at h
  by_cases g3 : a1 % 9 = 3
  · rw [if_pos g3] at h
    simp only [Option.some.injEq, Prod.mk.injEq] at h
    obtain ⟨rfl, rfl, rfl, rfl, rfl, rfl, rfl, rfl, rfl, rfl, rfl, rfl, rfl⟩ := h
    clear g0
    clear g1
    clear g2
    have g3b : Int.tmod a1 9 = 3 := (Int.tmod_eq_emod_of_nonneg hb0).trans g3
    go_enter Try.func26, Try.ntmps26
    go_wp2
    exact bodyPost_ret (results_cell_row rfl _ _ (w.heap.size + 1) 25 _ (0, 0) _ rfl ((Below.heap_alloc _ _ _ (by simp)).trans (second_box _ _ _)) Try.underlying25 rfl (by kernel_rfl)) rfl ⟨rfl, (((Below.refl _ _).alloc (Nat.le_refl _) _).alloc (by simp) _).alloc (by simp; omega) _⟩
  rw [if_neg g3] at h
  by_cases g4 : a1 % 9 = 4
  · rw [if_pos g4] at h
    simp only [Option.some.injEq, Prod.mk.injEq] at h
    obtain ⟨rfl, rfl, rfl, rfl, rfl, rfl, rfl, rfl, rfl, rfl, rfl, rfl, rfl⟩ := h
    clear g0
    clear g1
    clear g2
    clear g3
    have g4b : Int.tmod a1 9 = 4 := (Int.tmod_eq_emod_of_nonneg hb0).trans g4
    go_enter Try.func26, Try.ntmps26
    go_wp2
    exact bodyPost_ret (results_cell_row rfl _ _ (w.heap.size + 1) 25 _ (0, 0) _ rfl ((Below.heap_alloc _ _ _ (by simp)).trans (second_box _ _ _)) Try.underlying25 rfl (by kernel_rfl)) rfl ⟨rfl, (((Below.refl _ _).alloc (Nat.le_refl _) _).alloc (by simp) _).alloc (by simp; omega) _⟩
  rw [if_neg g4] at h
  by_cases g5 : a1 % 9 = 5
  · rw [if_pos g5] at h
    simp only [Option.some.injEq, Prod.mk.injEq] at h
    obtain ⟨rfl, rfl, rfl, rfl, rfl, rfl, rfl, rfl, rfl, rfl, rfl, rfl, rfl⟩ := h
    clear g0
    clear g1
    clear g2
    clear g3
    clear g4
    have g5b : Int.tmod a1 9 = 5 := (Int.tmod_eq_emod_of_nonneg hb0).trans g5
    go_enter Try.func26, Try.ntmps26
    go_wp2
    exact bodyPost_ret (results_cell_row rfl _ _ (w.heap.size + 1) 25 _ (0, 0) _ rfl ((Below.heap_alloc _ _ _ (by simp)).trans (second_box _ _ _)) Try.underlying25 rfl (by kernel_rfl)) rfl ⟨rfl, (((Below.refl _ _).alloc (Nat.le_refl _) _).alloc (by simp) _).alloc (by simp; omega) _⟩
  rw [if_neg g5] at h
  by_cases g6 : a1 % 9 = 6
  · rw [if_pos g6] at h
    simp only [Option.some.injEq, Prod.mk.injEq] at h
    obtain ⟨rfl, rfl, rfl, rfl, rfl, rfl, rfl, rfl, rfl, rfl, rfl, rfl, rfl⟩ := h
    clear g0
    clear g1
    clear g2
    clear g3
    clear g4
    clear g5
    have g6b : Int.tmod a1 9 = 6 := (Int.tmod_eq_emod_of_nonneg hb0).trans g6
    go_enter Try.func26, Try.ntmps26
    go_wp2
    exact bodyPost_ret (results_cell_row rfl _ _ (w.heap.size + 1) 25 _ (0, 0) _ rfl ((Below.heap_alloc _ _ _ (by simp)).trans (second_box _ _ _)) Try.underlying25 rfl (by kernel_rfl)) rfl ⟨rfl, (((Below.refl _ _).alloc (Nat.le_refl _) _).alloc (by simp) _).alloc (by simp; omega) _⟩
  rw [if_neg g6] at h
  by_cases g7 : a1 % 9 = 7
  · rw [if_pos g7] at h
    simp only [Option.some.injEq, Prod.mk.injEq] at h
    obtain ⟨rfl, rfl, rfl, rfl, rfl, rfl, rfl, rfl, rfl, rfl, rfl, rfl, rfl⟩ := h
    clear g0
    clear g1
    clear g2
    clear g3
    clear g4
    clear g5
    clear g6
    have g7b : Int.tmod a1 9 = 7 := (Int.tmod_eq_emod_of_nonneg hb0).trans g7
    go_enter Try.func26, Try.ntmps26
    go_wp2
    exact bodyPost_ret (results_cell_row rfl _ _ (w.heap.size + 1) 25 _ (0, 0) _ rfl ((Below.heap_alloc _ _ _ (by simp)).trans (second_box _ _ _)) Try.underlying25 rfl (by kernel_rfl)) rfl ⟨rfl, (((Below.refl _ _).alloc (Nat.le_refl _) _).alloc (by simp) _).alloc (by simp; omega) _⟩
  rw [if_neg g7] at h
  · have g8 : a1 % 9 = 8 := by omega
    simp only [Option.some.injEq, Prod.mk.injEq] at h
    obtain ⟨rfl, rfl, rfl, rfl, rfl, rfl, rfl, rfl, rfl, rfl, rfl, rfl, rfl⟩ := h
    clear g0
    clear g1
    clear g2
    clear g3
    clear g4
    clear g5
    clear g6
    clear g7
    have g8b : Int.tmod a1 9 = 8 := (Int.tmod_eq_emod_of_nonneg hb0).trans g8
    go_enter Try.func26, Try.ntmps26
    go_wp2
    exact bodyPost_ret (results_cell_row rfl _ _ (w.heap.size + 1) 25 _ (0, 0) _ rfl ((Below.heap_alloc _ _ _ (by simp)).trans (second_box _ _ _)) Try.underlying25 rfl (by kernel_rfl)) rfl ⟨rfl, (((Below.refl _ _).alloc (Nat.le_refl _) _).alloc (by simp) _).alloc (by simp; omega) _⟩
end Go.Proofs.Ytenkffjlpdappaa.Pr
