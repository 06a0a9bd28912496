/- Package days over this program: Valid, Local and Type come to what is told here. -/
import Derived.Test.YtbkkgaiokmnmgaaHLib
import Derived.Deep.QuietTactic
import Derived.BigQuiet
namespace Go.Proofs.Ytbkkgaiokmnmgaa.Pr
open Go.RowKit Go.Proofs.YtbkkgaiokmnmgaaW.PrintWords Go.Proofs.YtbkkgaiokmnmgaaW.PrintLast Go.Proofs.YtbkkgaiokmnmgaaW.PrintMore
set_option linter.unusedVariables false
set_option linter.unusedSimpArgs false

/-! ### what is computed -/
/-- From last on, strictly up to most. -/
def ascB (most : Int) : Int → List Int → Bool
  | _, [] => true
  | last, k :: r => decide (last < k) && (decide (k ≤ most) && ascB most k r)
def offB (n : Int) : Bool := decide (-1440 ≤ n) && decide (n ≤ 1440)
def dvalidB (o : Int) (cs : List S99) (hs : List Int) : Bool :=
  offB o && (decide (cs.length ≤ 16) && (decide (hs.length ≤ 32) && (cs.all (fun x => offB x.f1) && (ascB 52560000 (-1) (cs.map (·.f0)) && ascB 36500 (-1) hs))))
/-- The offset of a minute: that of the last change that is not later. -/
def offAt (m : Int) : Int → List S99 → Int
  | o, [] => o
  | o, x :: r => if x.f0 ≤ m then offAt m x.f1 r else offAt m o r
def days_Valid.f (a0_0 : Int) (l0_1 : List S99) (l0_2 : List Int) : Option Bool := some (dvalidB a0_0 l0_1 l0_2)
def days_Local.f (a0_0 : Int) (l0_1 : List S99) (l0_2 : List Int) (a1 : Int) : Option (Int × Int × Int) :=
  if 0 ≤ a1 ∧ a1 ≤ 52560000 ∧ dvalidB a0_0 l0_1 l0_2 = true then some ((a1 + offAt a1 a0_0 l0_1 + 1440) / 1440 - 1, (a1 + offAt a1 a0_0 l0_1 + 1440) % 1440, 0) else some (0, 0, 1)
def weekOf (d : Int) : Int := if (d + 7) % 7 = 6 then 2 else if (d + 7) % 7 = 5 then 1 else 0
def days_Type.f (a0_0 : Int) (l0_1 : List S99) (l0_2 : List Int) (a1 : Int) : Option (Int × Int) :=
  if -1 ≤ a1 ∧ a1 ≤ 36501 ∧ dvalidB a0_0 l0_1 l0_2 = true then some (if l0_2.contains a1 then 2 else weekOf a1, 0) else some (0, 1)

/-! ### the leaves -/
set_option maxHeartbeats 1000000 in
theorem isOffset_calls (n : Int) (w : World) : Calls Try.prog 91 #[.int .i64 n] w fun e w' => e = .returned (.bool (offB n)) ∧ w = w' := by
  by_cases h : -1440 ≤ n
  · have h' : decide (-1440 ≤ n) = true := decide_eq_true h
    have e0 : offB n = decide (n ≤ 1440) := by unfold offB; rw [h', Bool.true_and]
    rw [e0]
    clear h e0
    go_enter Try.func91, Try.ntmps91
    go_wp2
    go_ret
    exact ⟨rfl, rfl⟩
  · have h' : decide (-1440 ≤ n) = false := decide_eq_false h
    have e0 : offB n = false := by unfold offB; rw [h', Bool.false_and]
    rw [e0]
    clear h e0
    go_enter Try.func91, Try.ntmps91
    go_wp2
    go_ret
    exact ⟨rfl, rfl⟩
set_option maxHeartbeats 1000000 in
theorem key1_calls (a b : Int) (w : World) : Calls Try.prog 93 #[.agg #[.int .i64 a, .int .i64 b]] w fun e w' => e = .returned (.int .i64 a) ∧ Below w.heap.size w w' := by
  go_enter Try.func93, Try.ntmps93
  go_wp2
  go_ret
  exact ⟨rfl, (Below.refl _ _).alloc (Nat.le_refl _) _⟩
set_option maxHeartbeats 1000000 in
theorem key2_calls (a : Int) (w : World) : Calls Try.prog 95 #[.int .i64 a] w fun e w' => e = .returned (.int .i64 a) ∧ w = w' := by
  go_enter Try.func95, Try.ntmps95
  go_wp2
  go_ret
  exact ⟨rfl, rfl⟩
set_option maxHeartbeats 1000000 in
theorem week_calls (w : World) : Calls Try.prog 112 #[] w fun e w' => e = .returned (.agg #[.int .i64 0, .int .i64 0, .int .i64 0, .int .i64 0, .int .i64 0, .int .i64 1, .int .i64 2]) ∧ Below w.heap.size w w' := by
  go_enter Try.func112, Try.ntmps112
  go_wp2
  exact bodyPost_ret (v := .agg #[.int .i64 0, .int .i64 0, .int .i64 0, .int .i64 0, .int .i64 0, .int .i64 1, .int .i64 2]) (by simp [results, Try.results112, go_sem]) rfl ⟨rfl, ((Below.refl _ _).alloc (Nat.le_refl _) _).alloc (by simp) _⟩

/-! ### ascending: a loop that calls the key -/
theorem drop_rd {l : List S99} {i : Int} (h0 : 0 ≤ i) (h1 : i < (l.length : Int)) : l.drop i.toNat = rd_T99 l i :: l.drop (i + 1).toNat := by
  have hl : i.toNat < l.length := by omega
  rw [List.drop_eq_getElem_cons hl, show (i + 1).toNat = i.toNat + 1 by omega]
  unfold rd_T99
  rw [List.getD_eq_getElem?_getD, List.getElem?_eq_getElem hl]
  rfl
theorem drop_rdI {l : List Int} {i : Int} (h0 : 0 ≤ i) (h1 : i < (l.length : Int)) : l.drop i.toNat = rd l i :: l.drop (i + 1).toNat := by
  have hl : i.toNat < l.length := by omega
  rw [List.drop_eq_getElem_cons hl, show (i + 1).toNat = i.toNat + 1 by omega]
  unfold rd
  rw [List.getD_eq_getElem?_getD, List.getElem?_eq_getElem hl]
  rfl
set_option maxHeartbeats 2000000 in
theorem ascending1_calls (A : Option Addr) (c : Nat) (l : List S99) (most : Int) (w : World) (hr : Kd.C k99 w A l.length l) :
    Calls Try.prog 92 #[.slice A l.length c, .int .i64 most, .func (.func 93) #[] #[]] w fun e w' => e = .returned (.bool (ascB most (-1) (l.map (·.f0)))) ∧ Below w.heap.size w w' := by
  have hlen : l.length ≤ 9223372036854775807 := hr.2.1
  have HR := Aside0.mk hr
  clear hr
  have hu := Try.underlying99
  go_enter Try.func92, Try.ntmps92
  go_wp2
  go_loopw [7, 13] (fun s7 s13 wr => ∃ (i last : Int), s13 = .int .i64 i ∧ s7 = .int .i64 last ∧ 0 ≤ i ∧ i ≤ l.length ∧ Aside0 (Below w.heap.size w wr) ∧ Aside0 (ascB most (-1) (l.map (·.f0)) = ascB most last ((l.drop i.toNat).map (·.f0)))) (fun _ s13 _ => l.length - (intOf s13).toNat)
  case atStart => exact ⟨0, -1, rfl, rfl, Int.le_refl _, by omega, ⟨Below.refl _ _⟩, ⟨rfl⟩⟩
  case round =>
    obtain ⟨i, last, rfl, rfl, h0, h1, HB, HA⟩ := hrel
    by_cases hlt : i < (l.length : Int)
    · obtain ⟨ad, rfl, hc0, hc1⟩ := at_T99 HR.out i h0 hlt
      have hd := drop_rd h0 hlt
      generalize rd_T99 l i = x at hc0 hc1 hd
      have HD := Aside0.mk (show ascB most (-1) (l.map (·.f0)) = (decide (last < x.f0) && (decide (x.f0 ≤ most) && ascB most x.f0 ((l.drop (i + 1).toNat).map (·.f0)))) by rw [HA.out, hd]; rfl)
      clear hd
      replace hc0 := (HB.out.cell (World.block_lt_of_cell? w _ hc0)).trans hc0
      replace hc1 := (HB.out.cell (World.block_lt_of_cell? w _ hc1)).trans hc1
      by_cases t1 : x.f0 ≤ last
      · have t1b : decide (x.f0 ≤ last) = true := decide_eq_true t1
        rw [show decide (last < x.f0) = false from decide_eq_false (by omega), Bool.false_and] at HD
        clear t1
        go_wp2_with (go_at_call 93; refine (key1_calls _ _ _).mono ?_; rintro e w2 ⟨rfl, hb2⟩)
        go_ret
        rw [HD.out]
        exact ⟨rfl, (HB.out.alloc HB.out.size _).trans (hb2.mono (by have := HB.out.size; simp; omega))⟩
      · have t1b : decide (x.f0 ≤ last) = false := decide_eq_false t1
        rw [show decide (last < x.f0) = true from decide_eq_true (by omega), Bool.true_and] at HD
        clear t1
        by_cases t2 : most < x.f0
        · have t2b : decide (most < x.f0) = true := decide_eq_true t2
          rw [show decide (x.f0 ≤ most) = false from decide_eq_false (by omega), Bool.false_and] at HD
          clear t2
          go_wp2_with (go_at_call 93; refine (key1_calls _ _ _).mono ?_; rintro e w2 ⟨rfl, hb2⟩)
          go_ret
          rw [HD.out]
          exact ⟨rfl, (HB.out.alloc HB.out.size _).trans (hb2.mono (by have := HB.out.size; simp; omega))⟩
        · have t2b : decide (most < x.f0) = false := decide_eq_false t2
          rw [show decide (x.f0 ≤ most) = true from decide_eq_true (by omega), Bool.true_and] at HD
          clear t2
          go_wp2_with (go_at_call 93; refine (key1_calls _ _ _).mono ?_; rintro e w2 ⟨rfl, hb2⟩)
          have HB2 := Aside0.mk ((HB.out.alloc HB.out.size _).trans (hb2.mono (by have := HB.out.size; simp; omega)))
          clear hb2
          go_roundw
          case rel => exact ⟨i + 1, x.f0, rfl, rfl, by omega, by omega, HB2, ⟨HD.out⟩⟩
          case measure => simp [intOf]; omega
    · go_wp2
      go_ret
      rw [HA.out, List.drop_eq_nil_of_le (by omega)]
      exact ⟨rfl, HB.out⟩
set_option maxHeartbeats 2000000 in
theorem ascending2_calls (A : Option Addr) (c : Nat) (l : List Int) (most : Int) (w : World) (hr : Kd.C (Kd.int .i64) w A l.length l) :
    Calls Try.prog 94 #[.slice A l.length c, .int .i64 most, .func (.func 95) #[] #[]] w fun e w' => e = .returned (.bool (ascB most (-1) l)) ∧ Below w.heap.size w w' := by
  have hlen : l.length ≤ 9223372036854775807 := hr.2.1
  have HR := Aside0.mk hr
  clear hr
  go_enter Try.func94, Try.ntmps94
  go_wp2
  go_loopw [7, 13] (fun s7 s13 wr => ∃ (i last : Int), s13 = .int .i64 i ∧ s7 = .int .i64 last ∧ 0 ≤ i ∧ i ≤ l.length ∧ Aside0 (Below w.heap.size w wr) ∧ Aside0 (ascB most (-1) l = ascB most last (l.drop i.toNat))) (fun _ s13 _ => l.length - (intOf s13).toNat)
  case atStart => exact ⟨0, -1, rfl, rfl, Int.le_refl _, by omega, ⟨Below.refl _ _⟩, ⟨rfl⟩⟩
  case round =>
    obtain ⟨i, last, rfl, rfl, h0, h1, HB, HA⟩ := hrel
    by_cases hlt : i < (l.length : Int)
    · obtain ⟨ad, rfl, hc0⟩ := Kd.at_int HR.out i h0 hlt
      have hd := drop_rdI h0 hlt
      generalize rd l i = x at hc0 hd
      have HD := Aside0.mk (show ascB most (-1) l = (decide (last < x) && (decide (x ≤ most) && ascB most x (l.drop (i + 1).toNat))) by rw [HA.out, hd]; rfl)
      clear hd
      replace hc0 := (HB.out.cell (World.block_lt_of_cell? w _ hc0)).trans hc0
      by_cases t1 : x ≤ last
      · have t1b : decide (x ≤ last) = true := decide_eq_true t1
        rw [show decide (last < x) = false from decide_eq_false (by omega), Bool.false_and] at HD
        clear t1
        go_wp2_with (go_at_call 95; refine (key2_calls _ _).mono ?_; rintro e w2 ⟨rfl, rfl⟩)
        go_ret
        rw [HD.out]
        exact ⟨rfl, HB.out⟩
      · have t1b : decide (x ≤ last) = false := decide_eq_false t1
        rw [show decide (last < x) = true from decide_eq_true (by omega), Bool.true_and] at HD
        clear t1
        by_cases t2 : most < x
        · have t2b : decide (most < x) = true := decide_eq_true t2
          rw [show decide (x ≤ most) = false from decide_eq_false (by omega), Bool.false_and] at HD
          clear t2
          go_wp2_with (go_at_call 95; refine (key2_calls _ _).mono ?_; rintro e w2 ⟨rfl, rfl⟩)
          go_ret
          rw [HD.out]
          exact ⟨rfl, HB.out⟩
        · have t2b : decide (most < x) = false := decide_eq_false t2
          rw [show decide (x ≤ most) = true from decide_eq_true (by omega), Bool.true_and] at HD
          clear t2
          go_wp2_with (go_at_call 95; refine (key2_calls _ _).mono ?_; rintro e w2 ⟨rfl, rfl⟩)
          go_roundw
          case rel => exact ⟨i + 1, x, rfl, rfl, by omega, by omega, HB, ⟨HD.out⟩⟩
          case measure => simp [intOf]; omega
    · go_wp2
      go_ret
      rw [HA.out, List.drop_eq_nil_of_le (by omega)]
      exact ⟨rfl, HB.out⟩

/-! ### Valid -/
theorem cell3 (W : World) (a b c : Value) (t : TypeId) : (W.alloc (.cells #[a, b, c] t)).heap[W.heap.size]? = some (.cells #[a, b, c] t (0, 0)) := heap_alloc_new W _
set_option maxHeartbeats 4000000 in
theorem days_Valid.calls (a0_0 : Int) (A0_1 : Option Addr) (c0_1 : Nat) (l0_1 : List S99) (A0_2 : Option Addr) (c0_2 : Nat) (l0_2 : List Int) (r : Bool) (w : World)
    (hr0_1 : Kd.C k99 w A0_1 l0_1.length l0_1) (hc0_1 : l0_1.length ≤ c0_1) (hr0_2 : Kd.C (Kd.int .i64) w A0_2 l0_2.length l0_2) (hc0_2 : l0_2.length ≤ c0_2) (h : days_Valid.f a0_0 l0_1 l0_2 = some r) :
    Calls Try.prog 58 #[.agg #[.int .i64 a0_0, .slice A0_1 l0_1.length c0_1, .slice A0_2 l0_2.length c0_2]] w fun e w' => e = .returned (.bool r) ∧ Below w.heap.size w w' := by
  have hr : dvalidB a0_0 l0_1 l0_2 = r := Option.some.inj h
  have hlen : l0_1.length ≤ 9223372036854775807 := hr0_1.2.1
  have hlen2 : l0_2.length ≤ 9223372036854775807 := hr0_2.2.1
  have HR := Aside0.mk hr0_1
  have HS := Aside0.mk hr0_2
  have HV := Aside0.mk hr
  clear hr0_1 hr0_2 h hr
  have hu := Try.underlying99
  have hv := Try.underlying30
  by_cases t0 : offB a0_0 = true
  · by_cases t1 : l0_1.length ≤ 16
    · by_cases t2 : l0_2.length ≤ 32
      · have HV2 := Aside0.mk (show (l0_1.all (fun x => offB x.f1) && (ascB 52560000 (-1) (l0_1.map (·.f0)) && ascB 36500 (-1) l0_2)) = r by
          rw [← HV.out]; unfold dvalidB; rw [t0, decide_eq_true t1, decide_eq_true t2]; rfl)
        have t1b : decide (16 < l0_1.length) = false := decide_eq_false (by omega)
        have t2b : decide (32 < l0_2.length) = false := decide_eq_false (by omega)
        have t1c : decide ((16 : Int) < (l0_1.length : Int)) = false := decide_eq_false (by omega)
        have t2c : decide ((32 : Int) < (l0_2.length : Int)) = false := decide_eq_false (by omega)
        clear t1 t2 HV
        have H0 := Aside0.mk (cell3 w (.int .i64 a0_0) (.slice A0_1 l0_1.length c0_1) (.slice A0_2 l0_2.length c0_2) 30)
        go_enter Try.func58, Try.ntmps58
        go_wp2_with (go_at_call 91; refine (isOffset_calls _ _).mono ?_; rintro e w2 ⟨rfl, rfl⟩; rw [t0])
        go_loopw [24] (fun s24 wr => ∃ (i : Int), s24 = .int .i64 i ∧ 0 ≤ i ∧ i ≤ l0_1.length ∧ Aside0 (Below w.heap.size w wr) ∧ Aside0 (wr.heap[w.heap.size]? = some (.cells #[.int .i64 a0_0, .slice A0_1 l0_1.length c0_1, .slice A0_2 l0_2.length c0_2] 30 (0, 0))) ∧
          Aside0 (l0_1.all (fun x => offB x.f1) = (l0_1.drop i.toNat).all (fun x => offB x.f1))) (fun s24 _ => l0_1.length - (intOf s24).toNat)
        case atStart => exact ⟨0, rfl, Int.le_refl _, by omega, ⟨(Below.refl _ _).alloc (Nat.le_refl _) _⟩, H0, ⟨rfl⟩⟩
        case round =>
          obtain ⟨i, rfl, h0, h1, HB, HK, HA⟩ := hrel
          by_cases hlt : i < (l0_1.length : Int)
          · obtain ⟨ad, rfl, hc0, hc1⟩ := at_T99 HR.out i h0 hlt
            have hd := drop_rd h0 hlt
            generalize rd_T99 l0_1 i = x at hc0 hc1 hd
            have HD := Aside0.mk (show l0_1.all (fun x => offB x.f1) = (offB x.f1 && (l0_1.drop (i + 1).toNat).all (fun x => offB x.f1)) by rw [HA.out, hd]; rfl)
            clear hd
            replace hc0 := (HB.out.cell (World.block_lt_of_cell? w _ hc0)).trans hc0
            replace hc1 := (HB.out.cell (World.block_lt_of_cell? w _ hc1)).trans hc1
            by_cases t3 : offB x.f1 = true
            · go_wp2_with (go_at_call 91; refine (isOffset_calls _ _).mono ?_; rintro e w2 ⟨rfl, rfl⟩; rw [t3])
              go_roundw
              case rel => exact ⟨i + 1, rfl, by omega, by omega, ⟨HB.out.alloc HB.out.size _⟩, ⟨(Below.heap_alloc _ _ _ (blk_lt HK.out)).trans HK.out⟩, ⟨by rw [HD.out, t3, Bool.true_and]⟩⟩
              case measure => simp [intOf]; omega
            · replace t3 : offB x.f1 = false := by simpa using t3
              go_wp2_with (go_at_call 91; refine (isOffset_calls _ _).mono ?_; rintro e w2 ⟨rfl, rfl⟩; rw [t3])
              go_ret
              rw [← HV2.out, HD.out, t3, Bool.false_and, Bool.false_and]
              exact ⟨rfl, HB.out.alloc HB.out.size _⟩
          · have hall : l0_1.all (fun x => offB x.f1) = true := by rw [HA.out, List.drop_eq_nil_of_le (by omega)]; rfl
            have HV3 := Aside0.mk (show (ascB 52560000 (-1) (l0_1.map (·.f0)) && ascB 36500 (-1) l0_2) = r by rw [← HV2.out, hall, Bool.true_and])
            clear hall HV2
            have hz1 : wr.cell? ⟨w.heap.size, 1, none⟩ = some (.slice A0_1 l0_1.length c0_1) := (blk_cell HK.out 1).trans rfl
            have hz2 : wr.cell? ⟨w.heap.size, 2, none⟩ = some (.slice A0_2 l0_2.length c0_2) := (blk_cell HK.out 2).trans rfl
            have HL := Aside0.mk (blk_lt HK.out)
            by_cases t4 : ascB 52560000 (-1) (l0_1.map (·.f0)) = true
            · go_wp2_with (first
                | (go_at_call 92; refine (ascending1_calls _ _ _ _ _ (Kd.C_below HR.out HB.out)).mono ?_; rintro e w3 ⟨rfl, hb3⟩; rw [t4]; replace hz1 := pw_cell_below hb3 hz1; replace hz2 := pw_cell_below hb3 hz2; have HB3 := Aside0.mk hb3; clear hb3)
                | (go_at_call 94; refine (ascending2_calls _ _ _ _ _ (Kd.C_below HS.out (HB.out.trans (HB3.out.mono HB.out.size)))).mono ?_; rintro e w4 ⟨rfl, hb4⟩; have HB4 := Aside0.mk hb4; clear hb4))
              go_ret
              refine ⟨by have e_ := HV3.out; rw [t4, Bool.true_and] at e_; subst e_; first | rfl | (simp; done), (HB.out.trans (HB3.out.mono HB.out.size)).trans (HB4.out.mono (Nat.le_trans HB.out.size HB3.out.size))⟩
            · replace t4 : ascB 52560000 (-1) (l0_1.map (·.f0)) = false := by simpa using t4
              go_wp2_with (go_at_call 92; refine (ascending1_calls _ _ _ _ _ (Kd.C_below HR.out HB.out)).mono ?_; rintro e w3 ⟨rfl, hb3⟩; rw [t4]; have HB3 := Aside0.mk hb3; clear hb3)
              go_ret
              refine ⟨by have e_ := HV3.out; rw [t4, Bool.false_and] at e_; subst e_; first | rfl | (simp; done), HB.out.trans (HB3.out.mono HB.out.size)⟩
      · have t1b : decide (16 < l0_1.length) = false := decide_eq_false (by omega)
        have t2b : decide (32 < l0_2.length) = true := decide_eq_true (by omega)
        have t1c : decide ((16 : Int) < (l0_1.length : Int)) = false := decide_eq_false (by omega)
        have t2c : decide ((32 : Int) < (l0_2.length : Int)) = true := decide_eq_true (by omega)
        have hf : r = false := by rw [← HV.out]; unfold dvalidB; rw [t0, decide_eq_true t1, decide_eq_false t2]; rfl
        subst hf
        clear t1 t2 HV
        go_enter Try.func58, Try.ntmps58
        go_wp2_with (go_at_call 91; refine (isOffset_calls _ _).mono ?_; rintro e w2 ⟨rfl, rfl⟩; rw [t0])
        go_ret
        exact ⟨rfl, (Below.refl _ _).alloc (Nat.le_refl _) _⟩
    · have t1b : decide (16 < l0_1.length) = true := decide_eq_true (by omega)
      have t1c : decide ((16 : Int) < (l0_1.length : Int)) = true := decide_eq_true (by omega)
      have hf : r = false := by rw [← HV.out]; unfold dvalidB; rw [t0, decide_eq_false t1]; rfl
      subst hf
      clear t1 HV
      go_enter Try.func58, Try.ntmps58
      go_wp2_with (go_at_call 91; refine (isOffset_calls _ _).mono ?_; rintro e w2 ⟨rfl, rfl⟩; rw [t0])
      go_ret
      exact ⟨rfl, (Below.refl _ _).alloc (Nat.le_refl _) _⟩
  · replace t0 : offB a0_0 = false := by simpa using t0
    have hf : r = false := by rw [← HV.out]; unfold dvalidB; rw [t0]; rfl
    subst hf
    clear HV
    go_enter Try.func58, Try.ntmps58
    go_wp2_with (go_at_call 91; refine (isOffset_calls _ _).mono ?_; rintro e w2 ⟨rfl, rfl⟩; rw [t0])
    go_ret
    exact ⟨rfl, (Below.refl _ _).alloc (Nat.le_refl _) _⟩
end Go.Proofs.Ytbkkgaiokmnmgaa.Pr
