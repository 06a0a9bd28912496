/- Package record over this program: Check. -/
import Derived.Test.YtenkffjlpdappaaHRecord
import Derived.Test.YtenkffjlpdappaaPrx3
namespace Go.Proofs.Ytenkffjlpdappaa.Pr
open Go.RowKit Go.Proofs.YtenkffjlpdappaaW.PrintWords Go.Proofs.YtenkffjlpdappaaW.PrintLast Go.Proofs.YtenkffjlpdappaaW.PrintMore
set_option linter.unusedVariables false
set_option linter.unusedSimpArgs false

/-- The first of the parties from i on whose signature differs, or -1. -/
def recFrom (y0 y1 y2 y3 s0 s1 s2 s3 i : Int) : Int := if i ≤ 0 ∧ ¬ y0 = s0 then 0 else if i ≤ 1 ∧ ¬ y1 = s1 then 1 else if i ≤ 2 ∧ ¬ y2 = s2 then 2 else if i ≤ 3 ∧ ¬ y3 = s3 then 3 else -1
def record_Check.f (a0_0 a0_1 a0_2 a0_3 a0_4 a0_5 a0_6 a0_7 a0_8 a0_9 a0_10 a0_11 a0_12 a1_0 a1_1 a1_2 a1_3 : Int) : Option Int := (record_isRecord.f a0_0 a0_1 a0_2 a0_3 a0_4 a0_5 a0_6 a0_7 a0_8 a0_9 a0_10 a0_11 a0_12).bind fun v => if v = true then some (recFrom (signF a0_0 a0_1 a0_2 a0_3 a0_4 a0_5 a0_6 a0_7 a0_8 a1_0) (signF a0_0 a0_1 a0_2 a0_3 a0_4 a0_5 a0_6 a0_7 a0_8 a1_1) (signF a0_0 a0_1 a0_2 a0_3 a0_4 a0_5 a0_6 a0_7 a0_8 a1_2) (signF a0_0 a0_1 a0_2 a0_3 a0_4 a0_5 a0_6 a0_7 a0_8 a1_3) a0_9 a0_10 a0_11 a0_12 0) else some 0
theorem index4 {x0 x1 x2 x3 : Int} (i : Int) (v : Int) (W : World) (h : (i = 0 ∧ v = x0) ∨ (i = 1 ∧ v = x1) ∨ (i = 2 ∧ v = x2) ∨ (i = 3 ∧ v = x3)) : (Instr.index 23 (.agg #[.int .u64 x0, .int .u64 x1, .int .u64 x2, .int .u64 x3]) (.int .i64 i)).run Try.prog W = .ok (.int .u64 v) W := by
  rcases h with ⟨rfl, rfl⟩ | ⟨rfl, rfl⟩ | ⟨rfl, rfl⟩ | ⟨rfl, rfl⟩ <;> kernel_rfl
set_option maxRecDepth 1000000 in
set_option maxHeartbeats 8000000 in
theorem record_Check.calls (a0_0 a0_1 a0_2 a0_3 a0_4 a0_5 a0_6 a0_7 a0_8 a0_9 a0_10 a0_11 a0_12 a1_0 a1_1 a1_2 a1_3 r : Int) (w : World) (h : record_Check.f a0_0 a0_1 a0_2 a0_3 a0_4 a0_5 a0_6 a0_7 a0_8 a0_9 a0_10 a0_11 a0_12 a1_0 a1_1 a1_2 a1_3 = some r) :
    Calls Try.prog 22 #[.agg #[.int .i64 a0_0, .int .i64 a0_1, .int .i64 a0_2, .int .i64 a0_3, .int .i64 a0_4, .int .i64 a0_5, .int .i64 a0_6, .int .i64 a0_7, .int .i64 a0_8, .int .u64 a0_9, .int .u64 a0_10, .int .u64 a0_11, .int .u64 a0_12], .agg #[.int .u64 a1_0, .int .u64 a1_1, .int .u64 a1_2, .int .u64 a1_3]] w fun e w' => e = .returned (.int .i64 r) ∧ Below w.heap.size w w' := by
  unfold record_Check.f at h
  have hu := Try.underlying25
  have hu2 := Try.underlying23
  cases hv : record_isRecord.f a0_0 a0_1 a0_2 a0_3 a0_4 a0_5 a0_6 a0_7 a0_8 a0_9 a0_10 a0_11 a0_12 with
  | none => rw [hv] at h; exact absurd h (by simp)
  | some v =>
    rw [hv] at h
    simp only [Option.bind_some] at h
    have HV := Aside0.mk hv
    clear hv
    cases v with
    | false =>
      rw [if_neg (by simp)] at h
      obtain rfl := Option.some.inj h
      clear h
      go_enter Try.func22, Try.ntmps22
      go_wp2_with (go_at_call 38; refine (record_isRecord.calls a0_0 a0_1 a0_2 a0_3 a0_4 a0_5 a0_6 a0_7 a0_8 a0_9 a0_10 a0_11 a0_12 false _ HV.out).mono ?_; rintro e w2 ⟨rfl, hb2⟩; have HB2 := Aside0.mk ((((Below.refl w.heap.size w).alloc (Nat.le_refl _) _).alloc (by simp) _).trans (hb2.mono (by simp; omega))); clear hb2)
      go_ret
      exact ⟨rfl, HB2.out⟩
    | true =>
      rw [if_pos rfl] at h
      obtain ⟨y0, h0⟩ : ∃ y0, signF a0_0 a0_1 a0_2 a0_3 a0_4 a0_5 a0_6 a0_7 a0_8 a1_0 = y0 := ⟨_, rfl⟩
      obtain ⟨y1, h1⟩ : ∃ y1, signF a0_0 a0_1 a0_2 a0_3 a0_4 a0_5 a0_6 a0_7 a0_8 a1_1 = y1 := ⟨_, rfl⟩
      obtain ⟨y2, h2⟩ : ∃ y2, signF a0_0 a0_1 a0_2 a0_3 a0_4 a0_5 a0_6 a0_7 a0_8 a1_2 = y2 := ⟨_, rfl⟩
      obtain ⟨y3, h3⟩ : ∃ y3, signF a0_0 a0_1 a0_2 a0_3 a0_4 a0_5 a0_6 a0_7 a0_8 a1_3 = y3 := ⟨_, rfl⟩
      have HR := Aside0.mk (show recFrom y0 y1 y2 y3 a0_9 a0_10 a0_11 a0_12 0 = r by rw [← h0, ← h1, ← h2, ← h3]; exact Option.some.inj h)
      have S0 := Aside0.mk (show record_Sign.f a0_0 a0_1 a0_2 a0_3 a0_4 a0_5 a0_6 a0_7 a0_8 a0_9 a0_10 a0_11 a0_12 a1_0 = some y0 by rw [← h0]; rfl)
      have S1 := Aside0.mk (show record_Sign.f a0_0 a0_1 a0_2 a0_3 a0_4 a0_5 a0_6 a0_7 a0_8 a0_9 a0_10 a0_11 a0_12 a1_1 = some y1 by rw [← h1]; rfl)
      have S2 := Aside0.mk (show record_Sign.f a0_0 a0_1 a0_2 a0_3 a0_4 a0_5 a0_6 a0_7 a0_8 a0_9 a0_10 a0_11 a0_12 a1_2 = some y2 by rw [← h2]; rfl)
      have S3 := Aside0.mk (show record_Sign.f a0_0 a0_1 a0_2 a0_3 a0_4 a0_5 a0_6 a0_7 a0_8 a0_9 a0_10 a0_11 a0_12 a1_3 = some y3 by rw [← h3]; rfl)
      clear h h0 h1 h2 h3
      go_enter Try.func22, Try.ntmps22
      go_wp2_with (go_at_call 38; refine (record_isRecord.calls a0_0 a0_1 a0_2 a0_3 a0_4 a0_5 a0_6 a0_7 a0_8 a0_9 a0_10 a0_11 a0_12 true _ HV.out).mono ?_; rintro e w2 ⟨rfl, hb2⟩; have HB2 := Aside0.mk ((((Below.refl w.heap.size w).alloc (Nat.le_refl _) _).alloc (by simp) _).trans (hb2.mono (by simp; omega))); have HK2 := Aside0.mk ((hb2.block w.heap.size (by simp; omega)).trans ((Below.heap_alloc _ _ _ (by simp)).trans (heap_alloc_new w _))); have hk2 := Aside0.mk ((hb2.block (w.heap.size + 1) (by simp)).trans (second_box _ _ _)); clear hb2; have z0 : w2.cell? ⟨w.heap.size + 1, 0, none⟩ = some (.int .u64 a1_0) := (blk_cell hk2.out 0).trans rfl; have z1 : w2.cell? ⟨w.heap.size + 1, 1, none⟩ = some (.int .u64 a1_1) := (blk_cell hk2.out 1).trans rfl; have z2 : w2.cell? ⟨w.heap.size + 1, 2, none⟩ = some (.int .u64 a1_2) := (blk_cell hk2.out 2).trans rfl; have z3 : w2.cell? ⟨w.heap.size + 1, 3, none⟩ = some (.int .u64 a1_3) := (blk_cell hk2.out 3).trans rfl)
      clear hk2 z0 z1 z2 z3 HV
      go_loopw [11] (fun s11 wr => ∃ i : Int, s11 = .int .i64 i ∧ 0 ≤ i ∧ i ≤ 4 ∧ Aside0 (Below w.heap.size w wr) ∧ Aside0 (wr.heap[w.heap.size]? = some (.cells #[.int .i64 a0_0, .int .i64 a0_1, .int .i64 a0_2, .int .i64 a0_3, .int .i64 a0_4, .int .i64 a0_5, .int .i64 a0_6, .int .i64 a0_7, .int .i64 a0_8, .int .u64 a0_9, .int .u64 a0_10, .int .u64 a0_11, .int .u64 a0_12] 25 (0, 0))) ∧ Aside0 (recFrom y0 y1 y2 y3 a0_9 a0_10 a0_11 a0_12 i = r)) (fun s11 _ => 4 - (intOf s11).toNat)
      case atStart => exact ⟨0, rfl, by omega, by omega, HB2, HK2, HR⟩
      case round =>
        clear HB2 HK2 HR
        obtain ⟨i, rfl, i0, i1, HB, HK, HR⟩ := hrel
        by_cases hlt : i < 4
        · have hin : i = 0 ∨ i = 1 ∨ i = 2 ∨ i = 3 := by omega
          have c0 : wr.cell? ⟨w.heap.size, 0, none⟩ = some (.int .i64 a0_0) := (blk_cell HK.out 0).trans rfl
          have c1 : wr.cell? ⟨w.heap.size, 1, none⟩ = some (.int .i64 a0_1) := (blk_cell HK.out 1).trans rfl
          have c2 : wr.cell? ⟨w.heap.size, 2, none⟩ = some (.int .i64 a0_2) := (blk_cell HK.out 2).trans rfl
          have c3 : wr.cell? ⟨w.heap.size, 3, none⟩ = some (.int .i64 a0_3) := (blk_cell HK.out 3).trans rfl
          have c4 : wr.cell? ⟨w.heap.size, 4, none⟩ = some (.int .i64 a0_4) := (blk_cell HK.out 4).trans rfl
          have c5 : wr.cell? ⟨w.heap.size, 5, none⟩ = some (.int .i64 a0_5) := (blk_cell HK.out 5).trans rfl
          have c6 : wr.cell? ⟨w.heap.size, 6, none⟩ = some (.int .i64 a0_6) := (blk_cell HK.out 6).trans rfl
          have c7 : wr.cell? ⟨w.heap.size, 7, none⟩ = some (.int .i64 a0_7) := (blk_cell HK.out 7).trans rfl
          have c8 : wr.cell? ⟨w.heap.size, 8, none⟩ = some (.int .i64 a0_8) := (blk_cell HK.out 8).trans rfl
          have c9 : wr.cell? ⟨w.heap.size, 9, none⟩ = some (.int .u64 a0_9) := (blk_cell HK.out 9).trans rfl
          have c10 : wr.cell? ⟨w.heap.size, 10, none⟩ = some (.int .u64 a0_10) := (blk_cell HK.out 10).trans rfl
          have c11 : wr.cell? ⟨w.heap.size, 11, none⟩ = some (.int .u64 a0_11) := (blk_cell HK.out 11).trans rfl
          have c12 : wr.cell? ⟨w.heap.size, 12, none⟩ = some (.int .u64 a0_12) := (blk_cell HK.out 12).trans rfl
          have KS := Aside0.mk (show ∀ w', Below wr.heap.size wr w' → (w'.cell? ⟨w.heap.size, 0, none⟩ = some (.int .i64 a0_0) ∧ w'.cell? ⟨w.heap.size, 1, none⟩ = some (.int .i64 a0_1) ∧ w'.cell? ⟨w.heap.size, 2, none⟩ = some (.int .i64 a0_2) ∧ w'.cell? ⟨w.heap.size, 3, none⟩ = some (.int .i64 a0_3) ∧ w'.cell? ⟨w.heap.size, 4, none⟩ = some (.int .i64 a0_4) ∧ w'.cell? ⟨w.heap.size, 5, none⟩ = some (.int .i64 a0_5) ∧ w'.cell? ⟨w.heap.size, 6, none⟩ = some (.int .i64 a0_6) ∧ w'.cell? ⟨w.heap.size, 7, none⟩ = some (.int .i64 a0_7) ∧ w'.cell? ⟨w.heap.size, 8, none⟩ = some (.int .i64 a0_8) ∧ w'.cell? ⟨w.heap.size, 9, none⟩ = some (.int .u64 a0_9) ∧ w'.cell? ⟨w.heap.size, 10, none⟩ = some (.int .u64 a0_10) ∧ w'.cell? ⟨w.heap.size, 11, none⟩ = some (.int .u64 a0_11) ∧ w'.cell? ⟨w.heap.size, 12, none⟩ = some (.int .u64 a0_12) ∧ Aside0 (Below wr.heap.size wr w')) from fun w' h => ⟨pw_cell_below h c0, pw_cell_below h c1, pw_cell_below h c2, pw_cell_below h c3, pw_cell_below h c4, pw_cell_below h c5, pw_cell_below h c6, pw_cell_below h c7, pw_cell_below h c8, pw_cell_below h c9, pw_cell_below h c10, pw_cell_below h c11, pw_cell_below h c12, ⟨h⟩⟩)
          rcases hin with rfl | rfl | rfl | rfl
          · have hix : ∀ W, (Instr.index 23 (.agg #[.int .u64 a1_0, .int .u64 a1_1, .int .u64 a1_2, .int .u64 a1_3]) (.int .i64 0)).run Try.prog W = .ok (.int .u64 a1_0) W := fun W => index4 0 a1_0 W (by simp)
            by_cases g : y0 = a0_9
            · have gb : (y0 != a0_9) = false := bne_eq_false_iff_eq.mpr g
              have HR2 := Aside0.mk (show recFrom y0 y1 y2 y3 a0_9 a0_10 a0_11 a0_12 1 = r by have := HR.out; unfold recFrom at this ⊢; simpa [g] using this)
              clear g
              go_wp2
              go_region_held3 (fun w' => w'.cell? ⟨w.heap.size, 0, none⟩ = some (.int .i64 a0_0) ∧ w'.cell? ⟨w.heap.size, 1, none⟩ = some (.int .i64 a0_1) ∧ w'.cell? ⟨w.heap.size, 2, none⟩ = some (.int .i64 a0_2) ∧ w'.cell? ⟨w.heap.size, 3, none⟩ = some (.int .i64 a0_3) ∧ w'.cell? ⟨w.heap.size, 4, none⟩ = some (.int .i64 a0_4) ∧ w'.cell? ⟨w.heap.size, 5, none⟩ = some (.int .i64 a0_5) ∧ w'.cell? ⟨w.heap.size, 6, none⟩ = some (.int .i64 a0_6) ∧ w'.cell? ⟨w.heap.size, 7, none⟩ = some (.int .i64 a0_7) ∧ w'.cell? ⟨w.heap.size, 8, none⟩ = some (.int .i64 a0_8) ∧ w'.cell? ⟨w.heap.size, 9, none⟩ = some (.int .u64 a0_9) ∧ w'.cell? ⟨w.heap.size, 10, none⟩ = some (.int .u64 a0_10) ∧ w'.cell? ⟨w.heap.size, 11, none⟩ = some (.int .u64 a0_11) ∧ w'.cell? ⟨w.heap.size, 12, none⟩ = some (.int .u64 a0_12) ∧ Aside0 (Below wr.heap.size wr w'))
                ((refine KS.out _ ?_; repeat (first | exact Below.refl _ _ | refine below_thenR ?_ hb2 | apply below_drew1)))
                ((go_at_call 20; refine (record_Sign.calls a0_0 a0_1 a0_2 a0_3 a0_4 a0_5 a0_6 a0_7 a0_8 a0_9 a0_10 a0_11 a0_12 a1_0 y0 _ S0.out).mono ?_; rintro e w' ⟨rfl, hb2⟩))
              all_goals
                go_wp2
                go_roundw
                case rel =>
                  have hb3 := below_thenR (below_drew1 (Below.refl _ wr)) hb2
                  exact ⟨1, rfl, by omega, by omega, ⟨HB.out.trans (hb3.mono HB.out.size)⟩, ⟨(hb3.block _ (blk_lt HK.out)).trans HK.out⟩, HR2⟩
                case measure => simp [intOf]
            · have gb : (y0 != a0_9) = true := bne_iff_ne.mpr g
              have HR2 := Aside0.mk (show (0 : Int) = r by have := HR.out; unfold recFrom at this; simpa [g] using this)
              clear g
              go_wp2
              go_region_held3 (fun w' => w'.cell? ⟨w.heap.size, 0, none⟩ = some (.int .i64 a0_0) ∧ w'.cell? ⟨w.heap.size, 1, none⟩ = some (.int .i64 a0_1) ∧ w'.cell? ⟨w.heap.size, 2, none⟩ = some (.int .i64 a0_2) ∧ w'.cell? ⟨w.heap.size, 3, none⟩ = some (.int .i64 a0_3) ∧ w'.cell? ⟨w.heap.size, 4, none⟩ = some (.int .i64 a0_4) ∧ w'.cell? ⟨w.heap.size, 5, none⟩ = some (.int .i64 a0_5) ∧ w'.cell? ⟨w.heap.size, 6, none⟩ = some (.int .i64 a0_6) ∧ w'.cell? ⟨w.heap.size, 7, none⟩ = some (.int .i64 a0_7) ∧ w'.cell? ⟨w.heap.size, 8, none⟩ = some (.int .i64 a0_8) ∧ w'.cell? ⟨w.heap.size, 9, none⟩ = some (.int .u64 a0_9) ∧ w'.cell? ⟨w.heap.size, 10, none⟩ = some (.int .u64 a0_10) ∧ w'.cell? ⟨w.heap.size, 11, none⟩ = some (.int .u64 a0_11) ∧ w'.cell? ⟨w.heap.size, 12, none⟩ = some (.int .u64 a0_12) ∧ Aside0 (Below wr.heap.size wr w'))
                ((refine KS.out _ ?_; repeat (first | exact Below.refl _ _ | refine below_thenR ?_ hb2 | apply below_drew1)))
                ((go_at_call 20; refine (record_Sign.calls a0_0 a0_1 a0_2 a0_3 a0_4 a0_5 a0_6 a0_7 a0_8 a0_9 a0_10 a0_11 a0_12 a1_0 y0 _ S0.out).mono ?_; rintro e w' ⟨rfl, hb2⟩))
              all_goals
                go_wp2
                go_ret
                have hb3 := below_thenR (below_drew1 (Below.refl _ wr)) hb2
                exact ⟨by rw [← HR2.out]; rfl, HB.out.trans (hb3.mono HB.out.size)⟩
          · have hix : ∀ W, (Instr.index 23 (.agg #[.int .u64 a1_0, .int .u64 a1_1, .int .u64 a1_2, .int .u64 a1_3]) (.int .i64 1)).run Try.prog W = .ok (.int .u64 a1_1) W := fun W => index4 1 a1_1 W (by simp)
            by_cases g : y1 = a0_10
            · have gb : (y1 != a0_10) = false := bne_eq_false_iff_eq.mpr g
              have HR2 := Aside0.mk (show recFrom y0 y1 y2 y3 a0_9 a0_10 a0_11 a0_12 2 = r by have := HR.out; unfold recFrom at this ⊢; simpa [g] using this)
              clear g
              go_wp2
              go_region_held3 (fun w' => w'.cell? ⟨w.heap.size, 0, none⟩ = some (.int .i64 a0_0) ∧ w'.cell? ⟨w.heap.size, 1, none⟩ = some (.int .i64 a0_1) ∧ w'.cell? ⟨w.heap.size, 2, none⟩ = some (.int .i64 a0_2) ∧ w'.cell? ⟨w.heap.size, 3, none⟩ = some (.int .i64 a0_3) ∧ w'.cell? ⟨w.heap.size, 4, none⟩ = some (.int .i64 a0_4) ∧ w'.cell? ⟨w.heap.size, 5, none⟩ = some (.int .i64 a0_5) ∧ w'.cell? ⟨w.heap.size, 6, none⟩ = some (.int .i64 a0_6) ∧ w'.cell? ⟨w.heap.size, 7, none⟩ = some (.int .i64 a0_7) ∧ w'.cell? ⟨w.heap.size, 8, none⟩ = some (.int .i64 a0_8) ∧ w'.cell? ⟨w.heap.size, 9, none⟩ = some (.int .u64 a0_9) ∧ w'.cell? ⟨w.heap.size, 10, none⟩ = some (.int .u64 a0_10) ∧ w'.cell? ⟨w.heap.size, 11, none⟩ = some (.int .u64 a0_11) ∧ w'.cell? ⟨w.heap.size, 12, none⟩ = some (.int .u64 a0_12) ∧ Aside0 (Below wr.heap.size wr w'))
                ((refine KS.out _ ?_; repeat (first | exact Below.refl _ _ | refine below_thenR ?_ hb2 | apply below_drew1)))
                ((go_at_call 20; refine (record_Sign.calls a0_0 a0_1 a0_2 a0_3 a0_4 a0_5 a0_6 a0_7 a0_8 a0_9 a0_10 a0_11 a0_12 a1_1 y1 _ S1.out).mono ?_; rintro e w' ⟨rfl, hb2⟩))
              all_goals
                go_wp2
                go_roundw
                case rel =>
                  have hb3 := below_thenR (below_drew1 (Below.refl _ wr)) hb2
                  exact ⟨2, rfl, by omega, by omega, ⟨HB.out.trans (hb3.mono HB.out.size)⟩, ⟨(hb3.block _ (blk_lt HK.out)).trans HK.out⟩, HR2⟩
                case measure => simp [intOf]
            · have gb : (y1 != a0_10) = true := bne_iff_ne.mpr g
              have HR2 := Aside0.mk (show (1 : Int) = r by have := HR.out; unfold recFrom at this; simpa [g] using this)
              clear g
              go_wp2
              go_region_held3 (fun w' => w'.cell? ⟨w.heap.size, 0, none⟩ = some (.int .i64 a0_0) ∧ w'.cell? ⟨w.heap.size, 1, none⟩ = some (.int .i64 a0_1) ∧ w'.cell? ⟨w.heap.size, 2, none⟩ = some (.int .i64 a0_2) ∧ w'.cell? ⟨w.heap.size, 3, none⟩ = some (.int .i64 a0_3) ∧ w'.cell? ⟨w.heap.size, 4, none⟩ = some (.int .i64 a0_4) ∧ w'.cell? ⟨w.heap.size, 5, none⟩ = some (.int .i64 a0_5) ∧ w'.cell? ⟨w.heap.size, 6, none⟩ = some (.int .i64 a0_6) ∧ w'.cell? ⟨w.heap.size, 7, none⟩ = some (.int .i64 a0_7) ∧ w'.cell? ⟨w.heap.size, 8, none⟩ = some (.int .i64 a0_8) ∧ w'.cell? ⟨w.heap.size, 9, none⟩ = some (.int .u64 a0_9) ∧ w'.cell? ⟨w.heap.size, 10, none⟩ = some (.int .u64 a0_10) ∧ w'.cell? ⟨w.heap.size, 11, none⟩ = some (.int .u64 a0_11) ∧ w'.cell? ⟨w.heap.size, 12, none⟩ = some (.int .u64 a0_12) ∧ Aside0 (Below wr.heap.size wr w'))
                ((refine KS.out _ ?_; repeat (first | exact Below.refl _ _ | refine below_thenR ?_ hb2 | apply below_drew1)))
                ((go_at_call 20; refine (record_Sign.calls a0_0 a0_1 a0_2 a0_3 a0_4 a0_5 a0_6 a0_7 a0_8 a0_9 a0_10 a0_11 a0_12 a1_1 y1 _ S1.out).mono ?_; rintro e w' ⟨rfl, hb2⟩))
              all_goals
                go_wp2
                go_ret
                have hb3 := below_thenR (below_drew1 (Below.refl _ wr)) hb2
                exact ⟨by rw [← HR2.out]; rfl, HB.out.trans (hb3.mono HB.out.size)⟩
          · have hix : ∀ W, (Instr.index 23 (.agg #[.int .u64 a1_0, .int .u64 a1_1, .int .u64 a1_2, .int .u64 a1_3]) (.int .i64 2)).run Try.prog W = .ok (.int .u64 a1_2) W := fun W => index4 2 a1_2 W (by simp)
            by_cases g : y2 = a0_11
            · have gb : (y2 != a0_11) = false := bne_eq_false_iff_eq.mpr g
              have HR2 := Aside0.mk (show recFrom y0 y1 y2 y3 a0_9 a0_10 a0_11 a0_12 3 = r by have := HR.out; unfold recFrom at this ⊢; simpa [g] using this)
              clear g
              go_wp2
              go_region_held3 (fun w' => w'.cell? ⟨w.heap.size, 0, none⟩ = some (.int .i64 a0_0) ∧ w'.cell? ⟨w.heap.size, 1, none⟩ = some (.int .i64 a0_1) ∧ w'.cell? ⟨w.heap.size, 2, none⟩ = some (.int .i64 a0_2) ∧ w'.cell? ⟨w.heap.size, 3, none⟩ = some (.int .i64 a0_3) ∧ w'.cell? ⟨w.heap.size, 4, none⟩ = some (.int .i64 a0_4) ∧ w'.cell? ⟨w.heap.size, 5, none⟩ = some (.int .i64 a0_5) ∧ w'.cell? ⟨w.heap.size, 6, none⟩ = some (.int .i64 a0_6) ∧ w'.cell? ⟨w.heap.size, 7, none⟩ = some (.int .i64 a0_7) ∧ w'.cell? ⟨w.heap.size, 8, none⟩ = some (.int .i64 a0_8) ∧ w'.cell? ⟨w.heap.size, 9, none⟩ = some (.int .u64 a0_9) ∧ w'.cell? ⟨w.heap.size, 10, none⟩ = some (.int .u64 a0_10) ∧ w'.cell? ⟨w.heap.size, 11, none⟩ = some (.int .u64 a0_11) ∧ w'.cell? ⟨w.heap.size, 12, none⟩ = some (.int .u64 a0_12) ∧ Aside0 (Below wr.heap.size wr w'))
                ((refine KS.out _ ?_; repeat (first | exact Below.refl _ _ | refine below_thenR ?_ hb2 | apply below_drew1)))
                ((go_at_call 20; refine (record_Sign.calls a0_0 a0_1 a0_2 a0_3 a0_4 a0_5 a0_6 a0_7 a0_8 a0_9 a0_10 a0_11 a0_12 a1_2 y2 _ S2.out).mono ?_; rintro e w' ⟨rfl, hb2⟩))
              all_goals
                go_wp2
                go_roundw
                case rel =>
                  have hb3 := below_thenR (below_drew1 (Below.refl _ wr)) hb2
                  exact ⟨3, rfl, by omega, by omega, ⟨HB.out.trans (hb3.mono HB.out.size)⟩, ⟨(hb3.block _ (blk_lt HK.out)).trans HK.out⟩, HR2⟩
                case measure => simp [intOf]
            · have gb : (y2 != a0_11) = true := bne_iff_ne.mpr g
              have HR2 := Aside0.mk (show (2 : Int) = r by have := HR.out; unfold recFrom at this; simpa [g] using this)
              clear g
              go_wp2
              go_region_held3 (fun w' => w'.cell? ⟨w.heap.size, 0, none⟩ = some (.int .i64 a0_0) ∧ w'.cell? ⟨w.heap.size, 1, none⟩ = some (.int .i64 a0_1) ∧ w'.cell? ⟨w.heap.size, 2, none⟩ = some (.int .i64 a0_2) ∧ w'.cell? ⟨w.heap.size, 3, none⟩ = some (.int .i64 a0_3) ∧ w'.cell? ⟨w.heap.size, 4, none⟩ = some (.int .i64 a0_4) ∧ w'.cell? ⟨w.heap.size, 5, none⟩ = some (.int .i64 a0_5) ∧ w'.cell? ⟨w.heap.size, 6, none⟩ = some (.int .i64 a0_6) ∧ w'.cell? ⟨w.heap.size, 7, none⟩ = some (.int .i64 a0_7) ∧ w'.cell? ⟨w.heap.size, 8, none⟩ = some (.int .i64 a0_8) ∧ w'.cell? ⟨w.heap.size, 9, none⟩ = some (.int .u64 a0_9) ∧ w'.cell? ⟨w.heap.size, 10, none⟩ = some (.int .u64 a0_10) ∧ w'.cell? ⟨w.heap.size, 11, none⟩ = some (.int .u64 a0_11) ∧ w'.cell? ⟨w.heap.size, 12, none⟩ = some (.int .u64 a0_12) ∧ Aside0 (Below wr.heap.size wr w'))
                ((refine KS.out _ ?_; repeat (first | exact Below.refl _ _ | refine below_thenR ?_ hb2 | apply below_drew1)))
                ((go_at_call 20; refine (record_Sign.calls a0_0 a0_1 a0_2 a0_3 a0_4 a0_5 a0_6 a0_7 a0_8 a0_9 a0_10 a0_11 a0_12 a1_2 y2 _ S2.out).mono ?_; rintro e w' ⟨rfl, hb2⟩))
              all_goals
                go_wp2
                go_ret
                have hb3 := below_thenR (below_drew1 (Below.refl _ wr)) hb2
                exact ⟨by rw [← HR2.out]; rfl, HB.out.trans (hb3.mono HB.out.size)⟩
          · have hix : ∀ W, (Instr.index 23 (.agg #[.int .u64 a1_0, .int .u64 a1_1, .int .u64 a1_2, .int .u64 a1_3]) (.int .i64 3)).run Try.prog W = .ok (.int .u64 a1_3) W := fun W => index4 3 a1_3 W (by simp)
            by_cases g : y3 = a0_12
            · have gb : (y3 != a0_12) = false := bne_eq_false_iff_eq.mpr g
              have HR2 := Aside0.mk (show recFrom y0 y1 y2 y3 a0_9 a0_10 a0_11 a0_12 4 = r by have := HR.out; unfold recFrom at this ⊢; simpa [g] using this)
              clear g
              go_wp2
              go_region_held3 (fun w' => w'.cell? ⟨w.heap.size, 0, none⟩ = some (.int .i64 a0_0) ∧ w'.cell? ⟨w.heap.size, 1, none⟩ = some (.int .i64 a0_1) ∧ w'.cell? ⟨w.heap.size, 2, none⟩ = some (.int .i64 a0_2) ∧ w'.cell? ⟨w.heap.size, 3, none⟩ = some (.int .i64 a0_3) ∧ w'.cell? ⟨w.heap.size, 4, none⟩ = some (.int .i64 a0_4) ∧ w'.cell? ⟨w.heap.size, 5, none⟩ = some (.int .i64 a0_5) ∧ w'.cell? ⟨w.heap.size, 6, none⟩ = some (.int .i64 a0_6) ∧ w'.cell? ⟨w.heap.size, 7, none⟩ = some (.int .i64 a0_7) ∧ w'.cell? ⟨w.heap.size, 8, none⟩ = some (.int .i64 a0_8) ∧ w'.cell? ⟨w.heap.size, 9, none⟩ = some (.int .u64 a0_9) ∧ w'.cell? ⟨w.heap.size, 10, none⟩ = some (.int .u64 a0_10) ∧ w'.cell? ⟨w.heap.size, 11, none⟩ = some (.int .u64 a0_11) ∧ w'.cell? ⟨w.heap.size, 12, none⟩ = some (.int .u64 a0_12) ∧ Aside0 (Below wr.heap.size wr w'))
                ((refine KS.out _ ?_; repeat (first | exact Below.refl _ _ | refine below_thenR ?_ hb2 | apply below_drew1)))
                ((go_at_call 20; refine (record_Sign.calls a0_0 a0_1 a0_2 a0_3 a0_4 a0_5 a0_6 a0_7 a0_8 a0_9 a0_10 a0_11 a0_12 a1_3 y3 _ S3.out).mono ?_; rintro e w' ⟨rfl, hb2⟩))
              all_goals
                go_wp2
                go_roundw
                case rel =>
                  have hb3 := below_thenR (below_drew1 (Below.refl _ wr)) hb2
                  exact ⟨4, rfl, by omega, by omega, ⟨HB.out.trans (hb3.mono HB.out.size)⟩, ⟨(hb3.block _ (blk_lt HK.out)).trans HK.out⟩, HR2⟩
                case measure => simp [intOf]
            · have gb : (y3 != a0_12) = true := bne_iff_ne.mpr g
              have HR2 := Aside0.mk (show (3 : Int) = r by have := HR.out; unfold recFrom at this; simpa [g] using this)
              clear g
              go_wp2
              go_region_held3 (fun w' => w'.cell? ⟨w.heap.size, 0, none⟩ = some (.int .i64 a0_0) ∧ w'.cell? ⟨w.heap.size, 1, none⟩ = some (.int .i64 a0_1) ∧ w'.cell? ⟨w.heap.size, 2, none⟩ = some (.int .i64 a0_2) ∧ w'.cell? ⟨w.heap.size, 3, none⟩ = some (.int .i64 a0_3) ∧ w'.cell? ⟨w.heap.size, 4, none⟩ = some (.int .i64 a0_4) ∧ w'.cell? ⟨w.heap.size, 5, none⟩ = some (.int .i64 a0_5) ∧ w'.cell? ⟨w.heap.size, 6, none⟩ = some (.int .i64 a0_6) ∧ w'.cell? ⟨w.heap.size, 7, none⟩ = some (.int .i64 a0_7) ∧ w'.cell? ⟨w.heap.size, 8, none⟩ = some (.int .i64 a0_8) ∧ w'.cell? ⟨w.heap.size, 9, none⟩ = some (.int .u64 a0_9) ∧ w'.cell? ⟨w.heap.size, 10, none⟩ = some (.int .u64 a0_10) ∧ w'.cell? ⟨w.heap.size, 11, none⟩ = some (.int .u64 a0_11) ∧ w'.cell? ⟨w.heap.size, 12, none⟩ = some (.int .u64 a0_12) ∧ Aside0 (Below wr.heap.size wr w'))
                ((refine KS.out _ ?_; repeat (first | exact Below.refl _ _ | refine below_thenR ?_ hb2 | apply below_drew1)))
                ((go_at_call 20; refine (record_Sign.calls a0_0 a0_1 a0_2 a0_3 a0_4 a0_5 a0_6 a0_7 a0_8 a0_9 a0_10 a0_11 a0_12 a1_3 y3 _ S3.out).mono ?_; rintro e w' ⟨rfl, hb2⟩))
              all_goals
                go_wp2
                go_ret
                have hb3 := below_thenR (below_drew1 (Below.refl _ wr)) hb2
                exact ⟨by rw [← HR2.out]; rfl, HB.out.trans (hb3.mono HB.out.size)⟩
        · obtain rfl : i = 4 := by omega
          have HR2 := Aside0.mk (show (-1 : Int) = r by have := HR.out; unfold recFrom at this; simpa using this)
          go_wp2
          go_ret
          exact ⟨by rw [← HR2.out]; rfl, HB.out⟩
end Go.Proofs.Ytenkffjlpdappaa.Pr
