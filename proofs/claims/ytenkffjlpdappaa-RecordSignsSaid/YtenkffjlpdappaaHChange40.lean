/- chargeparklaw40.changed: one byte of one number of a reading, or of its link, is changed. -/
import Derived.Test.YtenkffjlpdappaaHBox
import Derived.Laws.BitsLemmas
namespace Go.Proofs.Ytenkffjlpdappaa.Pr
open Go.RowKit Go.Proofs.YtenkffjlpdappaaW.PrintWords Go.Proofs.YtenkffjlpdappaaW.PrintLast Go.Proofs.YtenkffjlpdappaaW.PrintMore
set_option linter.unusedVariables false
set_option linter.unusedSimpArgs false

/-- A byte in its place. -/
def byteAt (a2 a3 : Int) : Int := IntKind.u64.wrap (IntKind.u64.wrap a3 * 2 ^ min (8 * (Int.tmod a2 8) % 256).toNat 64)
def chargeparklaw40_changed.f (a0_0 a0_1 a0_2 a0_3 a0_4 a1 a2 a3 : Int) : Option (Int × Int × Int × Int × Int) :=
  if Int.tmod a1 5 = 0 then some (Go.bits .xor .i64 a0_0 (wrap64 (byteAt a2 a3)), a0_1, a0_2, a0_3, a0_4)
  else if Int.tmod a1 5 = 1 then some (a0_0, Go.bits .xor .i64 a0_1 (wrap64 (byteAt a2 a3)), a0_2, a0_3, a0_4)
  else if Int.tmod a1 5 = 2 then some (a0_0, a0_1, Go.bits .xor .i64 a0_2 (wrap64 (byteAt a2 a3)), a0_3, a0_4)
  else if Int.tmod a1 5 = 3 then some (a0_0, a0_1, a0_2, Go.bits .xor .i64 a0_3 (wrap64 (byteAt a2 a3)), a0_4)
  else some (a0_0, a0_1, a0_2, a0_3, Go.bits .xor .u64 a0_4 (byteAt a2 a3))
set_option maxRecDepth 1000000 in
set_option maxHeartbeats 4000000 in
theorem chargeparklaw40_changed.calls (a0_0 a0_1 a0_2 a0_3 a0_4 a1 a2 a3 r1 r2 r3 r4 r5 : Int) (w : World) (h : chargeparklaw40_changed.f a0_0 a0_1 a0_2 a0_3 a0_4 a1 a2 a3 = some (r1, r2, r3, r4, r5)) :
    Calls Try.prog 37 #[.agg #[.int .i64 a0_0, .int .i64 a0_1, .int .i64 a0_2, .int .i64 a0_3, .int .u64 a0_4], .int .u8 a1, .int .u8 a2, .int .u8 a3] w fun e w' => e = .returned (.agg #[.int .i64 r1, .int .i64 r2, .int .i64 r3, .int .i64 r4, .int .u64 r5]) ∧ Below w.heap.size w w' := by
  have hu := Try.underlying44
  have s0 : 0 ≤ 8 * Int.tmod a2 8 % 256 := Int.emod_nonneg _ (by decide)
  have s1 : 8 * Int.tmod a2 8 % 256 < 256 := Int.emod_lt_of_pos _ (by decide)
  unfold chargeparklaw40_changed.f at h
  by_cases g0 : Int.tmod a1 5 = 0
  · rw [if_pos g0] at h
    simp only [Option.some.injEq, Prod.mk.injEq] at h
    obtain ⟨rfl, rfl, rfl, rfl, rfl⟩ := h
    have g0b : (Int.tmod a1 5 == 0) = true := beq_iff_eq.mpr g0
    clear g0
    go_enter Try.func37, Try.ntmps37
    go_wp2
    exact bodyPost_ret (results_cell_row rfl _ _ (w.heap.size + 1) 44 _ (0, 0) _ rfl (second_box _ _ _) Try.underlying44 rfl (by kernel_rfl)) rfl ⟨rfl, ((Below.refl _ _).alloc (Nat.le_refl _) _).alloc (by simp) _⟩
  rw [if_neg g0] at h
  have g0b : (Int.tmod a1 5 == 0) = false := beq_eq_false_iff_ne.mpr g0
  clear g0
  by_cases g1 : Int.tmod a1 5 = 1
  · rw [if_pos g1] at h
    simp only [Option.some.injEq, Prod.mk.injEq] at h
    obtain ⟨rfl, rfl, rfl, rfl, rfl⟩ := h
    have g1b : (Int.tmod a1 5 == 1) = true := beq_iff_eq.mpr g1
    clear g1
    go_enter Try.func37, Try.ntmps37
    go_wp2
    exact bodyPost_ret (results_cell_row rfl _ _ (w.heap.size + 1) 44 _ (0, 0) _ rfl (second_box _ _ _) Try.underlying44 rfl (by kernel_rfl)) rfl ⟨rfl, ((Below.refl _ _).alloc (Nat.le_refl _) _).alloc (by simp) _⟩
  rw [if_neg g1] at h
  have g1b : (Int.tmod a1 5 == 1) = false := beq_eq_false_iff_ne.mpr g1
  clear g1
  by_cases g2 : Int.tmod a1 5 = 2
  · rw [if_pos g2] at h
    simp only [Option.some.injEq, Prod.mk.injEq] at h
    obtain ⟨rfl, rfl, rfl, rfl, rfl⟩ := h
    have g2b : (Int.tmod a1 5 == 2) = true := beq_iff_eq.mpr g2
    clear g2
    go_enter Try.func37, Try.ntmps37
    go_wp2
    exact bodyPost_ret (results_cell_row rfl _ _ (w.heap.size + 1) 44 _ (0, 0) _ rfl (second_box _ _ _) Try.underlying44 rfl (by kernel_rfl)) rfl ⟨rfl, ((Below.refl _ _).alloc (Nat.le_refl _) _).alloc (by simp) _⟩
  rw [if_neg g2] at h
  have g2b : (Int.tmod a1 5 == 2) = false := beq_eq_false_iff_ne.mpr g2
  clear g2
  by_cases g3 : Int.tmod a1 5 = 3
  · rw [if_pos g3] at h
    simp only [Option.some.injEq, Prod.mk.injEq] at h
    obtain ⟨rfl, rfl, rfl, rfl, rfl⟩ := h
    have g3b : (Int.tmod a1 5 == 3) = true := beq_iff_eq.mpr g3
    clear g3
    go_enter Try.func37, Try.ntmps37
    go_wp2
    exact bodyPost_ret (results_cell_row rfl _ _ (w.heap.size + 1) 44 _ (0, 0) _ rfl (second_box _ _ _) Try.underlying44 rfl (by kernel_rfl)) rfl ⟨rfl, ((Below.refl _ _).alloc (Nat.le_refl _) _).alloc (by simp) _⟩
  rw [if_neg g3] at h
  have g3b : (Int.tmod a1 5 == 3) = false := beq_eq_false_iff_ne.mpr g3
  clear g3
  simp only [Option.some.injEq, Prod.mk.injEq] at h
  obtain ⟨rfl, rfl, rfl, rfl, rfl⟩ := h
  go_enter Try.func37, Try.ntmps37
  go_wp2
  exact bodyPost_ret (results_cell_row rfl _ _ (w.heap.size + 1) 44 _ (0, 0) _ rfl (second_box _ _ _) Try.underlying44 rfl (by kernel_rfl)) rfl ⟨rfl, ((Below.refl _ _).alloc (Nat.le_refl _) _).alloc (by simp) _⟩
end Go.Proofs.Ytenkffjlpdappaa.Pr
