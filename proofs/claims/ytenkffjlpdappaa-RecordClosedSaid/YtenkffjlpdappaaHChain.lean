/- Package chain over this program: bytes and Link. -/
import Derived.Test.YtenkffjlpdappaaHBox
import Derived.Deep.QuietTactic
import Derived.BigQuiet
namespace Go.Proofs.Ytenkffjlpdappaa.Pr
open Go.RowKit Go.Proofs.YtenkffjlpdappaaW.PrintWords Go.Proofs.YtenkffjlpdappaaW.PrintLast Go.Proofs.YtenkffjlpdappaaW.PrintMore
set_option linter.unusedVariables false
set_option linter.unusedSimpArgs false

theorem wrap_u64_small {n : Int} (h0 : 0 ≤ n) (h1 : n < 18446744073709551616) : IntKind.u64.wrap n = n := by
  simp [IntKind.wrap, IntKind.bits, IntKind.signed]; omega
/-! ### what is computed -/
/-- A number's byte, from the front. -/
def byteK (n : Int) (k : Nat) : Int := IntKind.u64.wrap n / 2 ^ (56 - 8 * k) % 256
/-- The first m of the bytes of four numbers. -/
def barr (ns : List Int) (m : Nat) : Array Value := ((List.range 32).map (fun j => .int .u8 (if j < m then byteK (ns.getD (j / 8) 0) (j % 8) else 0))).toArray
theorem barr_size (ns : List Int) (m : Nat) : (barr ns m).size = 32 := by simp [barr]
theorem barr_zero (ns : List Int) : barr ns 0 = Array.replicate 32 (.int .u8 0) := by
  apply Array.ext <;> simp [barr]
theorem barr_next (ns : List Int) {m : Nat} (hm : m < 32) : (barr ns m).setIfInBounds m (.int .u8 (byteK (ns.getD (m / 8) 0) (m % 8))) = barr ns (m + 1) := by
  apply Array.ext
  · simp [barr]
  · intro i h1 h2
    have hi : i < 32 := by simpa [barr] using h2
    rw [Array.getElem_setIfInBounds (by simpa [barr] using hi)]
    by_cases e : m = i
    · subst e; simp [barr]
    · rw [if_neg e]
      simp only [barr, List.getElem_toArray, List.getElem_map, List.getElem_range]
      by_cases l : i < m
      · rw [if_pos l, if_pos (by omega)]
      · rw [if_neg l, if_neg (by omega)]

theorem barr_at (ns : List Int) (m j : Nat) (h : m ≤ j) (hj : j < 32) : (barr ns m)[j]? = some (.int .u8 0) := by
  simp only [barr, List.getElem?_toArray, List.getElem?_map, List.getElem?_range hj, Option.map_some]
  rw [if_neg (by omega)]
theorem barr_one (ns : List Int) (m : Nat) : (barr ns m).all (·.oneCell') = true := by
  rw [Array.all_eq_true_iff_forall_mem]
  intro v hv
  simp only [barr, List.mem_toArray, List.mem_map] at hv
  obtain ⟨j, _, rfl⟩ := hv
  rfl
theorem barr_full (ns : List Int) (j : Nat) (hj : j < 32) : (barr ns 32)[j]? = some (.int .u8 (byteK (ns.getD (j / 8) 0) (j % 8))) := by
  simp only [barr, List.getElem?_toArray, List.getElem?_map, List.getElem?_range hj, Option.map_some]
  rw [if_pos hj]
theorem byteK_range (n : Int) (k : Nat) : 0 ≤ byteK n k ∧ byteK n k < 256 := by unfold byteK; omega
set_option maxHeartbeats 4000000 in
theorem bytes_calls (a0 a1 a2 a3 a4 : Int) (w : World) :
    Calls Try.prog 49 #[.agg #[.int .i64 a0, .int .i64 a1, .int .i64 a2, .int .i64 a3, .int .u64 a4]] w fun e w' => e = .returned (.agg (barr [a0, a1, a2, a3] 32)) ∧ Below w.heap.size w w' := by
  have hu := Try.underlying44
  have hu2 := Try.underlying84
  have HU3 := Aside0.mk Try.underlying76
  have i0 : ∀ W, (Instr.index 84 (.agg #[.int .i64 a0, .int .i64 a1, .int .i64 a2, .int .i64 a3]) (.int .i64 0)).run Try.prog W = .ok (.int .i64 a0) W := fun _ => by kernel_rfl
  have i1 : ∀ W, (Instr.index 84 (.agg #[.int .i64 a0, .int .i64 a1, .int .i64 a2, .int .i64 a3]) (.int .i64 1)).run Try.prog W = .ok (.int .i64 a1) W := fun _ => by kernel_rfl
  have i2 : ∀ W, (Instr.index 84 (.agg #[.int .i64 a0, .int .i64 a1, .int .i64 a2, .int .i64 a3]) (.int .i64 2)).run Try.prog W = .ok (.int .i64 a2) W := fun _ => by kernel_rfl
  have i3 : ∀ W, (Instr.index 84 (.agg #[.int .i64 a0, .int .i64 a1, .int .i64 a2, .int .i64 a3]) (.int .i64 3)).run Try.prog W = .ok (.int .i64 a3) W := fun _ => by kernel_rfl
  go_enter Try.func49, Try.ntmps49
  go_wp2
  have HK1 : Aside0 ((((w.alloc (Obj.cells #[.int .i64 a0, .int .i64 a1, .int .i64 a2, .int .i64 a3, .int .u64 a4] 44)).alloc (Obj.cells (barr [a0, a1, a2, a3] 0) 76)).alloc (Obj.cells (barr [a0, a1, a2, a3] 0) 76)).heap[w.heap.size + 1]? = some (.cells (barr [a0, a1, a2, a3] 0) 76 (0, 0))) :=
    ⟨(((Below.refl _ _).alloc (Nat.le_refl _) _).block _ (by simp)).trans (second_box _ _ _)⟩
  have HK2 : Aside0 ((((w.alloc (Obj.cells #[.int .i64 a0, .int .i64 a1, .int .i64 a2, .int .i64 a3, .int .u64 a4] 44)).alloc (Obj.cells (barr [a0, a1, a2, a3] 0) 76)).alloc (Obj.cells (barr [a0, a1, a2, a3] 0) 76)).heap[w.heap.size + 1 + 1]? = some (.cells (barr [a0, a1, a2, a3] 0) 76 (0, 0))) :=
    ⟨by have := heap_alloc_new ((w.alloc (Obj.cells #[.int .i64 a0, .int .i64 a1, .int .i64 a2, .int .i64 a3, .int .u64 a4] 44)).alloc (Obj.cells (barr [a0, a1, a2, a3] 0) 76)) (Obj.cells (barr [a0, a1, a2, a3] 0) 76); simpa using this⟩
  have HB0 : Aside0 (Below w.heap.size w (((w.alloc (Obj.cells #[.int .i64 a0, .int .i64 a1, .int .i64 a2, .int .i64 a3, .int .u64 a4] 44)).alloc (Obj.cells (barr [a0, a1, a2, a3] 0) 76)).alloc (Obj.cells (barr [a0, a1, a2, a3] 0) 76))) :=
    ⟨(((Below.refl _ _).alloc (Nat.le_refl _) _).alloc (by simp) _).alloc (by simp; omega) _⟩
  go_loopw [16] (fun s16 wr => ∃ i : Int, s16 = .int .i64 i ∧ 0 ≤ i ∧ i ≤ 4 ∧ Aside0 (Below w.heap.size w wr) ∧ Aside0 (wr.heap[w.heap.size + 1]? = some (.cells (barr [a0, a1, a2, a3] 0) 76 (0, 0))) ∧ Aside0 (wr.heap[w.heap.size + 1 + 1]? = some (.cells (barr [a0, a1, a2, a3] (8 * i.toNat)) 76 (0, 0)))) (fun s16 _ => 4 - (intOf s16).toNat)
  case atStart => exact ⟨0, rfl, by omega, by omega, HB0, HK1, HK2⟩
  case round =>
    clear HK1 HK2 HB0
    obtain ⟨i, rfl, h0, h1, HB, HK1, HK2⟩ := hrel
    by_cases hlt : i < 4
    · have hin : i = 0 ∨ i = 1 ∨ i = 2 ∨ i = 3 := by omega
      rcases hin with rfl | rfl | rfl | rfl
      · go_wp2
        have HK := HK2
        clear HK2
        go_loopw [20] (fun s20 wi => ∃ k : Int, s20 = .int .i64 k ∧ 0 ≤ k ∧ k ≤ 8 ∧ Aside0 (Below w.heap.size w wi) ∧ Aside0 (wi.heap[w.heap.size + 1]? = some (.cells (barr [a0, a1, a2, a3] 0) 76 (0, 0))) ∧ Aside0 (wi.heap[w.heap.size + 1 + 1]? = some (.cells (barr [a0, a1, a2, a3] k.toNat) 76 (0, 0)))) (fun s20 _ => 8 - (intOf s20).toNat)
        case atStart => exact ⟨0, rfl, by omega, by omega, HB, HK1, HK⟩
        case round =>
          clear HK HK1 HB
          obtain ⟨k, rfl, k0, k1, HB, HK1, HK⟩ := hrel
          by_cases klt : k < 8
          · have fz : wr.frozen? ⟨w.heap.size + 1 + 1, k.toNat, none⟩ = false := frozen_of_row wr _ _ _ _ HK.out
            have cl : wr.cell? ⟨w.heap.size + 1 + 1, k.toNat, none⟩ = some (.int .u8 0) := (cell_of_row wr _ _ _ _ _ HK.out).trans (barr_at _ _ _ (by omega) (by omega))
            have HV := Aside0.mk (show (.int .u8 (IntKind.u64.wrap a0 / 2 ^ (56 - 8 * k).toNat % 256) : Value) = .int .u8 (byteK (([a0, a1, a2, a3] : List Int).getD (k.toNat / 8) 0) (k.toNat % 8)) by
              rw [show k.toNat / 8 = 0 by omega, show k.toNat % 8 = k.toNat by omega]; unfold byteK; rw [show (56 - 8 * k).toNat = 56 - 8 * k.toNat by omega]; rfl)
            go_wp2
            go_roundw
            case rel =>
              refine ⟨k + 1, rfl, by omega, by omega, ⟨HB.out.trans ((Below.refl _ _).setCell (by simp; omega) _)⟩, ⟨(heap_setCell_other wr _ _ _ (by simp)).trans HK1.out⟩, ⟨?_⟩⟩
              rw [heap_setCell_same wr _ _ _ _ _ HK.out, HV.out, barr_next _ (by omega), show (k + 1).toNat = k.toNat + 1 by omega]
            case measure => simp [intOf]; omega
          · obtain rfl : k = 8 := by omega
            go_wp2
            go_roundw
            case rel => exact ⟨1, rfl, by omega, by omega, HB, HK1, HK⟩
            case measure => simp [intOf]
      · go_wp2
        have HK := HK2
        clear HK2
        go_loopw [20] (fun s20 wi => ∃ k : Int, s20 = .int .i64 k ∧ 0 ≤ k ∧ k ≤ 8 ∧ Aside0 (Below w.heap.size w wi) ∧ Aside0 (wi.heap[w.heap.size + 1]? = some (.cells (barr [a0, a1, a2, a3] 0) 76 (0, 0))) ∧ Aside0 (wi.heap[w.heap.size + 1 + 1]? = some (.cells (barr [a0, a1, a2, a3] (8 + k.toNat)) 76 (0, 0)))) (fun s20 _ => 8 - (intOf s20).toNat)
        case atStart => exact ⟨0, rfl, by omega, by omega, HB, HK1, HK⟩
        case round =>
          clear HK HK1 HB
          obtain ⟨k, rfl, k0, k1, HB, HK1, HK⟩ := hrel
          by_cases klt : k < 8
          · have fz : wr.frozen? ⟨w.heap.size + 1 + 1, (8 + k).toNat, none⟩ = false := frozen_of_row wr _ _ _ _ HK.out
            have cl : wr.cell? ⟨w.heap.size + 1 + 1, (8 + k).toNat, none⟩ = some (.int .u8 0) := (cell_of_row wr _ _ _ _ _ HK.out).trans (barr_at _ _ _ (by omega) (by omega))
            have HV := Aside0.mk (show (.int .u8 (IntKind.u64.wrap a1 / 2 ^ (56 - 8 * k).toNat % 256) : Value) = .int .u8 (byteK (([a0, a1, a2, a3] : List Int).getD ((8 + k.toNat) / 8) 0) ((8 + k.toNat) % 8)) by
              rw [show (8 + k.toNat) / 8 = 1 by omega, show (8 + k.toNat) % 8 = k.toNat by omega]; unfold byteK; rw [show (56 - 8 * k).toNat = 56 - 8 * k.toNat by omega]; rfl)
            go_wp2
            go_roundw
            case rel =>
              refine ⟨k + 1, rfl, by omega, by omega, ⟨HB.out.trans ((Below.refl _ _).setCell (by simp; omega) _)⟩, ⟨(heap_setCell_other wr _ _ _ (by simp)).trans HK1.out⟩, ⟨?_⟩⟩
              rw [heap_setCell_same wr _ _ _ _ _ HK.out, show ((8 + k).toNat : Nat) = 8 + k.toNat by omega, HV.out, barr_next _ (by omega), show 8 + (k + 1).toNat = 8 + k.toNat + 1 by omega]
            case measure => simp [intOf]; omega
          · obtain rfl : k = 8 := by omega
            go_wp2
            go_roundw
            case rel => exact ⟨2, rfl, by omega, by omega, HB, HK1, HK⟩
            case measure => simp [intOf]
      · go_wp2
        have HK := HK2
        clear HK2
        go_loopw [20] (fun s20 wi => ∃ k : Int, s20 = .int .i64 k ∧ 0 ≤ k ∧ k ≤ 8 ∧ Aside0 (Below w.heap.size w wi) ∧ Aside0 (wi.heap[w.heap.size + 1]? = some (.cells (barr [a0, a1, a2, a3] 0) 76 (0, 0))) ∧ Aside0 (wi.heap[w.heap.size + 1 + 1]? = some (.cells (barr [a0, a1, a2, a3] (16 + k.toNat)) 76 (0, 0)))) (fun s20 _ => 8 - (intOf s20).toNat)
        case atStart => exact ⟨0, rfl, by omega, by omega, HB, HK1, HK⟩
        case round =>
          clear HK HK1 HB
          obtain ⟨k, rfl, k0, k1, HB, HK1, HK⟩ := hrel
          by_cases klt : k < 8
          · have fz : wr.frozen? ⟨w.heap.size + 1 + 1, (16 + k).toNat, none⟩ = false := frozen_of_row wr _ _ _ _ HK.out
            have cl : wr.cell? ⟨w.heap.size + 1 + 1, (16 + k).toNat, none⟩ = some (.int .u8 0) := (cell_of_row wr _ _ _ _ _ HK.out).trans (barr_at _ _ _ (by omega) (by omega))
            have HV := Aside0.mk (show (.int .u8 (IntKind.u64.wrap a2 / 2 ^ (56 - 8 * k).toNat % 256) : Value) = .int .u8 (byteK (([a0, a1, a2, a3] : List Int).getD ((16 + k.toNat) / 8) 0) ((16 + k.toNat) % 8)) by
              rw [show (16 + k.toNat) / 8 = 2 by omega, show (16 + k.toNat) % 8 = k.toNat by omega]; unfold byteK; rw [show (56 - 8 * k).toNat = 56 - 8 * k.toNat by omega]; rfl)
            go_wp2
            go_roundw
            case rel =>
              refine ⟨k + 1, rfl, by omega, by omega, ⟨HB.out.trans ((Below.refl _ _).setCell (by simp; omega) _)⟩, ⟨(heap_setCell_other wr _ _ _ (by simp)).trans HK1.out⟩, ⟨?_⟩⟩
              rw [heap_setCell_same wr _ _ _ _ _ HK.out, show ((16 + k).toNat : Nat) = 16 + k.toNat by omega, HV.out, barr_next _ (by omega), show 16 + (k + 1).toNat = 16 + k.toNat + 1 by omega]
            case measure => simp [intOf]; omega
          · obtain rfl : k = 8 := by omega
            go_wp2
            go_roundw
            case rel => exact ⟨3, rfl, by omega, by omega, HB, HK1, HK⟩
            case measure => simp [intOf]
      · go_wp2
        have HK := HK2
        clear HK2
        go_loopw [20] (fun s20 wi => ∃ k : Int, s20 = .int .i64 k ∧ 0 ≤ k ∧ k ≤ 8 ∧ Aside0 (Below w.heap.size w wi) ∧ Aside0 (wi.heap[w.heap.size + 1]? = some (.cells (barr [a0, a1, a2, a3] 0) 76 (0, 0))) ∧ Aside0 (wi.heap[w.heap.size + 1 + 1]? = some (.cells (barr [a0, a1, a2, a3] (24 + k.toNat)) 76 (0, 0)))) (fun s20 _ => 8 - (intOf s20).toNat)
        case atStart => exact ⟨0, rfl, by omega, by omega, HB, HK1, HK⟩
        case round =>
          clear HK HK1 HB
          obtain ⟨k, rfl, k0, k1, HB, HK1, HK⟩ := hrel
          by_cases klt : k < 8
          · have fz : wr.frozen? ⟨w.heap.size + 1 + 1, (24 + k).toNat, none⟩ = false := frozen_of_row wr _ _ _ _ HK.out
            have cl : wr.cell? ⟨w.heap.size + 1 + 1, (24 + k).toNat, none⟩ = some (.int .u8 0) := (cell_of_row wr _ _ _ _ _ HK.out).trans (barr_at _ _ _ (by omega) (by omega))
            have HV := Aside0.mk (show (.int .u8 (IntKind.u64.wrap a3 / 2 ^ (56 - 8 * k).toNat % 256) : Value) = .int .u8 (byteK (([a0, a1, a2, a3] : List Int).getD ((24 + k.toNat) / 8) 0) ((24 + k.toNat) % 8)) by
              rw [show (24 + k.toNat) / 8 = 3 by omega, show (24 + k.toNat) % 8 = k.toNat by omega]; unfold byteK; rw [show (56 - 8 * k).toNat = 56 - 8 * k.toNat by omega]; rfl)
            go_wp2
            go_roundw
            case rel =>
              refine ⟨k + 1, rfl, by omega, by omega, ⟨HB.out.trans ((Below.refl _ _).setCell (by simp; omega) _)⟩, ⟨(heap_setCell_other wr _ _ _ (by simp)).trans HK1.out⟩, ⟨?_⟩⟩
              rw [heap_setCell_same wr _ _ _ _ _ HK.out, show ((24 + k).toNat : Nat) = 24 + k.toNat by omega, HV.out, barr_next _ (by omega), show 24 + (k + 1).toNat = 24 + k.toNat + 1 by omega]
            case measure => simp [intOf]; omega
          · obtain rfl : k = 8 := by omega
            go_wp2
            go_roundw
            case rel => exact ⟨4, rfl, by omega, by omega, HB, HK1, HK⟩
            case measure => simp [intOf]
    · obtain rfl : i = 4 := by omega
      go_wp2_with (first | (refine wpList_load_row rfl _ _ rfl (w.heap.size + 1 + 1) rfl _ _ _ _ HK2.out HU3.out rfl (by rw [barr_size]; kernel_rfl) ?_) | (refine wpList_store_row rfl _ _ _ rfl (w.heap.size + 1) _ rfl rfl _ _ HK1.out (by rw [barr_size]; kernel_rfl) (by rw [barr_size, barr_size]) (barr_one _ _) ?_))
      refine bodyPost_ret (v := .agg (barr [a0, a1, a2, a3] 32)) (results_cell_row rfl _ _ (w.heap.size + 1) 76 _ (0, 0) _ rfl (setRow_heap wr _ _ _ _ _ HK1.out) HU3.out rfl (by rw [barr_size]; kernel_rfl)) rfl ?_
      exact ⟨rfl, below_setRow HB.out (by omega) _⟩
/-- A state, behind the first m bytes of four numbers. -/
def linkF (ns : List Int) (x : Int) : Nat → Int
  | 0 => x
  | m + 1 => IntKind.u64.wrap (Go.bits .xor .u64 (linkF ns x m) (byteK (ns.getD (m / 8) 0) (m % 8)) * 1099511628211)
def chain_Link.f (a0 : Int) (a1_0 a1_1 a1_2 a1_3 a1_4 : Int) : Option Int := some (linkF [a1_0, a1_1, a1_2, a1_3] a0 32)
set_option maxHeartbeats 4000000 in
theorem chain_Link.calls (a0 a1_0 a1_1 a1_2 a1_3 a1_4 r : Int) (w : World) (h : chain_Link.f a0 a1_0 a1_1 a1_2 a1_3 a1_4 = some r) :
    Calls Try.prog 32 #[.int .u64 a0, .agg #[.int .i64 a1_0, .int .i64 a1_1, .int .i64 a1_2, .int .i64 a1_3, .int .u64 a1_4]] w fun e w' => e = .returned (.int .u64 r) ∧ Below w.heap.size w w' := by
  obtain rfl := Option.some.inj h
  clear h
  have hu := Try.underlying44
  go_enter Try.func32, Try.ntmps32
  go_wp2_with (go_at_call 49; refine (bytes_calls _ _ _ _ _ _).mono ?_; rintro e w2 ⟨rfl, hb2⟩; have HB2 := Aside0.mk (((Below.refl w.heap.size w).alloc (Nat.le_refl _) _).trans (hb2.mono (by simp))); clear hb2)
  have HIX := Aside0.mk (fun (i : Int) (h0 : 0 ≤ i) (h1 : i < 32) W => run_index_row (P := Try.prog) Try.underlying76 Try.underlying5 rfl (by kernel_rfl) (barr [a1_0, a1_1, a1_2, a1_3] 32) i h0 h1 (.int .u8 (byteK (([a1_0, a1_1, a1_2, a1_3] : List Int).getD (i.toNat / 8) 0) (i.toNat % 8))) (barr_full _ _ (by omega)) W)
  go_loopw [0, 9] (fun s0 s9 wr => ∃ i x : Int, s0 = .int .u64 x ∧ s9 = .int .i64 i ∧ 0 ≤ i ∧ i ≤ 32 ∧ Aside0 (Below w.heap.size w wr) ∧ Aside0 (x = linkF [a1_0, a1_1, a1_2, a1_3] a0 i.toNat)) (fun _ s9 _ => 32 - (intOf s9).toNat)
  case atStart => exact ⟨0, a0, rfl, rfl, by omega, by omega, HB2, ⟨rfl⟩⟩
  case round =>
    clear HB2
    obtain ⟨i, x, rfl, rfl, h0, h1, HB, HX⟩ := hrel
    by_cases hlt : i < 32
    · have hix := HIX.out i h0 hlt
      have HN := Aside0.mk (show linkF [a1_0, a1_1, a1_2, a1_3] a0 (i + 1).toNat = IntKind.u64.wrap (Go.bits .xor .u64 x (byteK (([a1_0, a1_1, a1_2, a1_3] : List Int).getD (i.toNat / 8) 0) (i.toNat % 8)) * 1099511628211) by rw [HX.out, show (i + 1).toNat = i.toNat + 1 by omega]; rfl)
      have HBy := Aside0.mk (byteK_range (([a1_0, a1_1, a1_2, a1_3] : List Int).getD (i.toNat / 8) 0) (i.toNat % 8))
      generalize byteK (([a1_0, a1_1, a1_2, a1_3] : List Int).getD (i.toNat / 8) 0) (i.toNat % 8) = b at hix HN HBy
      clear HIX
      go_wp2
      go_roundw
      case rel => exact ⟨i + 1, _, rfl, rfl, by omega, by omega, HB, ⟨by rw [HN.out, wrap_u64_small HBy.out.1 (by have := HBy.out.2; omega)]⟩⟩
      case measure => simp [intOf]; omega
    · obtain rfl : i = 32 := by omega
      go_wp2
      go_ret
      exact ⟨by rw [HX.out]; rfl, HB.out⟩
/-! ### refused -/
def refusedI (a c d a' c' d' : Int) : Int := if c < c' ∨ a = a' ∧ d < d' then 12 else if a ≠ a' ∧ c' < c then 6 else 0
def chain_refused.f (a0_0 a0_1 a0_2 a0_3 a0_4 a1_0 a1_1 a1_2 a1_3 a1_4 : Int) : Option Int := some (refusedI a0_0 a0_2 a0_3 a1_0 a1_2 a1_3)
set_option maxHeartbeats 4000000 in
theorem chain_refused.calls (a0_0 a0_1 a0_2 a0_3 a0_4 a1_0 a1_1 a1_2 a1_3 a1_4 r : Int) (w : World) (h : chain_refused.f a0_0 a0_1 a0_2 a0_3 a0_4 a1_0 a1_1 a1_2 a1_3 a1_4 = some r) :
    Calls Try.prog 46 #[.agg #[.int .i64 a0_0, .int .i64 a0_1, .int .i64 a0_2, .int .i64 a0_3, .int .u64 a0_4], .agg #[.int .i64 a1_0, .int .i64 a1_1, .int .i64 a1_2, .int .i64 a1_3, .int .u64 a1_4]] w fun e w' => e = .returned (.int .i64 r) ∧ Below w.heap.size w w' := by
  obtain rfl := Option.some.inj h
  clear h
  have hu := Try.underlying44
  by_cases h1 : a0_2 < a1_2 <;> by_cases h2 : a0_0 = a1_0 <;> by_cases h3 : a0_3 < a1_3 <;> by_cases h4 : a1_2 < a0_2
  all_goals try (exfalso; omega)
  all_goals
    obtain ⟨v, hv⟩ : ∃ v, refusedI a0_0 a0_2 a0_3 a1_0 a1_2 a1_3 = v := ⟨_, rfl⟩
    rw [hv]
    unfold refusedI at hv
    simp only [h1, h2, h3, h4, and_true, and_false, or_true, or_false, true_or, false_or, if_true, if_false, ne_eq, not_true, not_false_iff, true_and, false_and] at hv
    subst hv
    first | have d1 : decide (a0_2 < a1_2) = true := decide_eq_true h1 | have d1 : decide (a0_2 < a1_2) = false := decide_eq_false h1
    first | have d2 : (a0_0 == a1_0) = true := beq_iff_eq.mpr h2 | have d2 : (a0_0 == a1_0) = false := beq_eq_false_iff_ne.mpr h2
    first | have d3 : decide (a0_3 < a1_3) = true := decide_eq_true h3 | have d3 : decide (a0_3 < a1_3) = false := decide_eq_false h3
    first | have d4 : decide (a1_2 < a0_2) = true := decide_eq_true h4 | have d4 : decide (a1_2 < a0_2) = false := decide_eq_false h4
    clear h1 h2 h3 h4
    go_enter Try.func46, Try.ntmps46
    go_wp2
    go_ret
    exact ⟨rfl, ((Below.refl _ _).alloc (Nat.le_refl _) _).alloc (by simp) _⟩
end Go.Proofs.Ytenkffjlpdappaa.Pr
