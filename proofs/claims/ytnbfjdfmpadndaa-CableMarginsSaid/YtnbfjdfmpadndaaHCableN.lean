/- Package cable over this program: Next. -/
import Derived.Test.YtnbfjdfmpadndaaHCable
namespace Go.Proofs.Ytnbfjdfmpadndaa.Pr
open Go.RowKit Go.Proofs.YtnbfjdfmpadndaaW.PrintWords Go.Proofs.YtnbfjdfmpadndaaW.PrintLast Go.Proofs.YtnbfjdfmpadndaaW.PrintMore
set_option linter.unusedVariables false
set_option linter.unusedSimpArgs false

def czeroB (A M G L D : Int) : Bool := decide (A = 0) && (decide (M = 0) && (decide (G = 0) && (decide (L = 0) && decide (D = 0))))
def cokB (A M G L D : Int) : Bool := decide (0 ≤ A) && (decide (A < M) && (decide (M ≤ 200000) && (decide (0 ≤ G) && (decide (G ≤ 1000) && (decide (0 ≤ L) && (decide (L ≤ 1000) && (decide (1 ≤ D) && decide (D ≤ 1000000))))))))
def cvalidB (A M G L D t : Int) : Bool := (cokB A M G L D || czeroB A M G L D) && (decide (0 ≤ t) && decide (t ≤ 1000000000))
theorem cokB_iff {A M G L D : Int} : cokB A M G L D = true ↔ CableOK A M G L D := by
  simp only [cokB, Bool.and_eq_true, decide_eq_true_eq]
  constructor
  · rintro ⟨a, b, c, d, e, f, g, h, i⟩; exact ⟨a, b, c, d, e, f, g, h, i⟩
  · rintro ⟨a, b, c, d, e, f, g, h, i⟩; exact ⟨a, b, c, d, e, f, g, h, i⟩
theorem czeroB_iff {A M G L D : Int} : czeroB A M G L D = true ↔ A = 0 ∧ M = 0 ∧ G = 0 ∧ L = 0 ∧ D = 0 := by
  simp only [czeroB, Bool.and_eq_true, decide_eq_true_eq]
theorem mn_ge_iff {a b c : Int} : c ≤ mn a b ↔ c ≤ a ∧ c ≤ b := by unfold mn; split <;> omega
theorem mx_le_iff {a b c : Int} : mx a b ≤ c ↔ a ≤ c ∧ b ≤ c := by unfold mx; split <;> omega
set_option maxHeartbeats 1000000 in
theorem warm_valid (A M G L D t : Int) : cable_warm_valid.f A M G L D t = some (cvalidB A M G L D t) := by
  have hz : (A == 0 && (M == 0 && (G == 0 && (L == 0 && (D == 0))))) = czeroB A M G L D := rfl
  unfold cable_warm_valid.f
  rw [hz]
  simp only [ge_iff_le, mn_ge_iff, mx_le_iff]
  unfold cvalidB cokB
  generalize czeroB A M G L D = z
  by_cases c0 : 0 ≤ A
  rotate_left
  · cases z <;> by_cases c10 : 0 ≤ t <;> simp [c0, c10]
  by_cases c1 : A < M
  rotate_left
  · cases z <;> by_cases c10 : 0 ≤ t <;> simp [c0, c1, c10]
  by_cases c2 : M ≤ 200000
  rotate_left
  · cases z <;> by_cases c10 : 0 ≤ t <;> simp [c0, c1, c2, c10]
  by_cases c3 : 0 ≤ G
  rotate_left
  · cases z <;> by_cases c10 : 0 ≤ t <;> simp [c0, c1, c2, c3, c10]
  by_cases c4 : 0 ≤ L
  rotate_left
  · cases z <;> by_cases c10 : 0 ≤ t <;> simp [c0, c1, c2, c3, c4, c10]
  by_cases c5 : G ≤ 1000
  rotate_left
  · cases z <;> by_cases c10 : 0 ≤ t <;> simp [c0, c1, c2, c3, c4, c5, c10]
  by_cases c6 : L ≤ 1000
  rotate_left
  · cases z <;> by_cases c10 : 0 ≤ t <;> simp [c0, c1, c2, c3, c4, c5, c6, c10]
  by_cases c7 : 1 ≤ D
  rotate_left
  · cases z <;> by_cases c10 : 0 ≤ t <;> simp [c0, c1, c2, c3, c4, c5, c6, c7, c10]
  by_cases c8 : D ≤ 1000000
  rotate_left
  · cases z <;> by_cases c10 : 0 ≤ t <;> simp [c0, c1, c2, c3, c4, c5, c6, c7, c8, c10]
  by_cases c10 : 0 ≤ t <;> simp [c0, c1, c2, c3, c4, c5, c6, c7, c8, c10]

set_option maxHeartbeats 1000000 in
theorem carry_zero (g : Nat) (t a : Int) (w : World) (hb : w.heap[g]? = some (.cells #[.int .i64 0, .int .i64 0, .int .i64 0, .int .i64 0, .int .i64 0, .int .i64 t] 67 (0, 0))) :
    Calls Try.prog 49 #[.pointer (some ⟨g, 0, none⟩), .int .i64 a] w fun e w' => e = .returned (.tuple #[]) ∧ w = w' := by
  have c0 : w.cell? ⟨g, 0, none⟩ = some (.int .i64 0) := (blk_cell hb 0).trans rfl
  have c1 : w.cell? ⟨g, 1, none⟩ = some (.int .i64 0) := (blk_cell hb 1).trans rfl
  have c2 : w.cell? ⟨g, 2, none⟩ = some (.int .i64 0) := (blk_cell hb 2).trans rfl
  have c3 : w.cell? ⟨g, 3, none⟩ = some (.int .i64 0) := (blk_cell hb 3).trans rfl
  have c4 : w.cell? ⟨g, 4, none⟩ = some (.int .i64 0) := (blk_cell hb 4).trans rfl
  have hu := Try.underlying67
  have hv := Try.underlying46
  clear hb
  go_enter Try.func49, Try.ntmps49
  go_wp2
  first | exact bodyPost_ret (v := .tuple #[]) (results_none rfl _ _ _) rfl ⟨rfl, rfl⟩ | (go_end0; exact ⟨rfl, rfl⟩)

def wrongB (a : Int) : Bool := decide (a < 0) || decide (1000 < a)
theorem wrong_f (a : Int) : cable_wrong.f a = some (wrongB a) := by
  unfold cable_wrong.f wrongB
  by_cases h : a < 0 <;> simp [h]
/-- The temperature behind a tick. -/
def afterI (A M G L D t a : Int) : Int := if czeroB A M G L D = true then t else carryI A G L D t a
def cable_Next.f (a0_0 a0_1 a0_2 a0_3 a0_4 a1 a2 : Int) : Option (Int × Int) :=
  if cvalidB a0_0 a0_1 a0_2 a0_3 a0_4 a1 = true ∧ wrongB a2 = false then
    (if 0 ≤ afterI a0_0 a0_1 a0_2 a0_3 a0_4 a1 a2 ∧ afterI a0_0 a0_1 a0_2 a0_3 a0_4 a1 a2 ≤ 1000000000 then some (afterI a0_0 a0_1 a0_2 a0_3 a0_4 a1 a2, 0) else some (0, 3))
  else some (0, 1)
theorem second_box (w : World) (o1 o2 : Obj) : ((w.alloc o1).alloc o2).heap[w.heap.size + 1]? = some o2 := by have := heap_alloc_new (w.alloc o1) o2; rwa [World.size_alloc] at this
theorem cell5 (W : World) (a b c d e : Value) (t : TypeId) : (W.alloc (.cells #[a, b, c, d, e] t)).heap[W.heap.size]? = some (.cells #[a, b, c, d, e] t (0, 0)) := heap_alloc_new W _
theorem cell6 (W : World) (a b c d e f : Value) (t : TypeId) : (W.alloc (.cells #[a, b, c, d, e, f] t)).heap[W.heap.size]? = some (.cells #[a, b, c, d, e, f] t (0, 0)) := heap_alloc_new W _
set_option maxHeartbeats 4000000 in
theorem cable_Next.calls (a0_0 a0_1 a0_2 a0_3 a0_4 a1 a2 r0 r1 : Int) (w : World) (h : cable_Next.f a0_0 a0_1 a0_2 a0_3 a0_4 a1 a2 = some (r0, r1)) :
    Calls Try.prog 30 #[.agg #[.int .i64 a0_0, .int .i64 a0_1, .int .i64 a0_2, .int .i64 a0_3, .int .i64 a0_4], .int .i64 a1, .int .i64 a2] w fun e w' => e = .returned (.tuple #[.int .i64 r0, .int .i64 r1]) ∧ Below w.heap.size w w' := by
  have hu := Try.underlying67
  have hv := Try.underlying46
  have HV := Aside0.mk (warm_valid a0_0 a0_1 a0_2 a0_3 a0_4 a1)
  have HW := Aside0.mk (wrong_f a2)
  cases v : cvalidB a0_0 a0_1 a0_2 a0_3 a0_4 a1 with
  | false =>
    rw [v] at HV
    unfold cable_Next.f at h
    rw [if_neg (by rw [v]; simp)] at h
    simp only [Option.some.injEq, Prod.mk.injEq] at h
    obtain ⟨rfl, rfl⟩ := h
    clear v
    go_enter Try.func30, Try.ntmps30
    go_wp2_with (go_at_call 45; refine (cable_warm_valid.calls _ _ _ _ _ _ false _ HV.out).mono ?_; rintro e w2 ⟨rfl, hb2⟩; have HB2 := Aside0.mk hb2; clear hb2)
    go_ret2
    exact ⟨rfl, (((Below.refl _ _).alloc (Nat.le_refl _) _).alloc (by simp) _).trans (HB2.out.mono (by simp; omega))⟩
  | true =>
    rw [v] at HV
    cases x : wrongB a2 with
    | true =>
      rw [x] at HW
      unfold cable_Next.f at h
      rw [if_neg (by rw [x]; simp)] at h
      simp only [Option.some.injEq, Prod.mk.injEq] at h
      obtain ⟨rfl, rfl⟩ := h
      clear v x
      go_enter Try.func30, Try.ntmps30
      go_wp2_with (first | (go_at_call 45; refine (cable_warm_valid.calls _ _ _ _ _ _ true _ HV.out).mono ?_; rintro e w2 ⟨rfl, hb2⟩; have HB2 := Aside0.mk hb2; clear hb2) | (go_at_call 48; refine (cable_wrong.calls _ true _ HW.out).mono ?_; rintro e w3 ⟨rfl, hb3⟩; have HB3 := Aside0.mk hb3.below; clear hb3))
      go_ret2
      exact ⟨rfl, ((((Below.refl _ _).alloc (Nat.le_refl _) _).alloc (by simp) _).trans (HB2.out.mono (by simp; omega))).trans (HB3.out.mono (Nat.le_trans (by simp; omega) HB2.out.size))⟩
    | false =>
      rw [x] at HW
      unfold cable_Next.f at h
      rw [if_pos ⟨v, x⟩] at h
      have ⟨x0, x1⟩ : 0 ≤ a2 ∧ a2 ≤ 1000 := by simp only [wrongB, Bool.or_eq_false_iff, decide_eq_false_iff_not] at x; omega
      simp only [cvalidB, Bool.and_eq_true, Bool.or_eq_true, decide_eq_true_eq] at v
      obtain ⟨vc, t0, t1⟩ := v
      by_cases z : czeroB a0_0 a0_1 a0_2 a0_3 a0_4 = true
      · rw [show afterI a0_0 a0_1 a0_2 a0_3 a0_4 a1 a2 = a1 by unfold afterI; rw [if_pos z], if_pos ⟨t0, t1⟩] at h
        simp only [Option.some.injEq, Prod.mk.injEq] at h
        obtain ⟨rfl, rfl⟩ := h
        obtain ⟨rfl, rfl, rfl, rfl, rfl⟩ := czeroB_iff.1 z
        have t0b : decide (a1 < 0) = false := decide_eq_false (by omega)
        have t1b : decide (1000000000 < a1) = false := decide_eq_false (by omega)
        clear x vc t0 t1 z x0 x1
        go_enter Try.func30, Try.ntmps30
        go_wp2_with (first | (go_at_call 45; refine (cable_warm_valid.calls _ _ _ _ _ _ true _ HV.out).mono ?_; rintro e w2 ⟨rfl, hb2⟩; have HK2 := Aside0.mk ((hb2.block (w.heap.size + 1) (by simp)).trans (second_box _ _ _)); have HB2 := Aside0.mk ((((Below.refl w.heap.size w).alloc (Nat.le_refl _) _).alloc (by simp) _).trans (hb2.mono (by simp; omega))); clear hb2) | (go_at_call 48; refine (cable_wrong.calls _ false _ HW.out).mono ?_; rintro e w3 ⟨rfl, hb3⟩; have HK3 := Aside0.mk ((hb3.below.block _ (blk_lt HK2.out)).trans HK2.out); have HB3 := Aside0.mk (HB2.out.trans (hb3.below.mono HB2.out.size)); clear hb3 HK2 HB2))
        refine (carry_zero _ a1 a2 _ HK3.out).mono ?_
        rintro e w4 ⟨rfl, rfl⟩
        have c5 : w3.cell? ⟨w.heap.size + 1, 5, none⟩ = some (.int .i64 a1) := (blk_cell HK3.out 5).trans rfl
        go_wp2
        go_ret2
        exact ⟨rfl, HB3.out⟩
      · have hc : CableOK a0_0 a0_1 a0_2 a0_3 a0_4 := cokB_iff.1 (by rcases vc with vc | vc; exact vc; exact absurd vc z)
        rw [show afterI a0_0 a0_1 a0_2 a0_3 a0_4 a1 a2 = carryI a0_0 a0_2 a0_3 a0_4 a1 a2 by unfold afterI; rw [if_neg z]] at h
        have HC := Aside0.mk (fun W hW => carry_calls (w.heap.size + 1) a0_0 a0_1 a0_2 a0_3 a0_4 a1 a2 W hc t0 t1 x0 x1 hW)
        generalize carryI a0_0 a0_2 a0_3 a0_4 a1 a2 = y at h HC
        clear x vc t0 t1 z x0 x1 hc
        by_cases y0 : y < 0
        · rw [if_neg (by omega)] at h
          simp only [Option.some.injEq, Prod.mk.injEq] at h
          obtain ⟨rfl, rfl⟩ := h
          have y0b : decide (y < 0) = true := decide_eq_true y0
          clear y0
          go_enter Try.func30, Try.ntmps30
          go_wp2_with (first | (go_at_call 45; refine (cable_warm_valid.calls _ _ _ _ _ _ true _ HV.out).mono ?_; rintro e w2 ⟨rfl, hb2⟩; have HK2 := Aside0.mk ((hb2.block (w.heap.size + 1) (by simp)).trans (second_box _ _ _)); have HB2 := Aside0.mk ((((Below.refl w.heap.size w).alloc (Nat.le_refl _) _).alloc (by simp) _).trans (hb2.mono (by simp; omega))); clear hb2) | (go_at_call 48; refine (cable_wrong.calls _ false _ HW.out).mono ?_; rintro e w3 ⟨rfl, hb3⟩; have HK3 := Aside0.mk ((hb3.below.block _ (blk_lt HK2.out)).trans HK2.out); have HB3 := Aside0.mk (HB2.out.trans (hb3.below.mono HB2.out.size)); clear hb3 HK2 HB2))
          refine (HC.out _ HK3.out).mono ?_
          rintro e w4 ⟨rfl, hk, hb⟩
          have c5 : w4.cell? ⟨w.heap.size + 1, 5, none⟩ = some (.int .i64 y) := (blk_cell hk 5).trans rfl
          have HB4 := Aside0.mk (HB3.out.trans (hb w.heap.size (by omega)))
          clear hk hb
          go_wp2
          go_ret2
          exact ⟨rfl, HB4.out⟩
        · have y0b : decide (y < 0) = false := decide_eq_false y0
          by_cases y1 : 1000000000 < y
          · rw [if_neg (by omega)] at h
            simp only [Option.some.injEq, Prod.mk.injEq] at h
            obtain ⟨rfl, rfl⟩ := h
            have y1b : decide (1000000000 < y) = true := decide_eq_true y1
            clear y0 y1
            go_enter Try.func30, Try.ntmps30
            go_wp2_with (first | (go_at_call 45; refine (cable_warm_valid.calls _ _ _ _ _ _ true _ HV.out).mono ?_; rintro e w2 ⟨rfl, hb2⟩; have HK2 := Aside0.mk ((hb2.block (w.heap.size + 1) (by simp)).trans (second_box _ _ _)); have HB2 := Aside0.mk ((((Below.refl w.heap.size w).alloc (Nat.le_refl _) _).alloc (by simp) _).trans (hb2.mono (by simp; omega))); clear hb2) | (go_at_call 48; refine (cable_wrong.calls _ false _ HW.out).mono ?_; rintro e w3 ⟨rfl, hb3⟩; have HK3 := Aside0.mk ((hb3.below.block _ (blk_lt HK2.out)).trans HK2.out); have HB3 := Aside0.mk (HB2.out.trans (hb3.below.mono HB2.out.size)); clear hb3 HK2 HB2))
            refine (HC.out _ HK3.out).mono ?_
            rintro e w4 ⟨rfl, hk, hb⟩
            have c5 : w4.cell? ⟨w.heap.size + 1, 5, none⟩ = some (.int .i64 y) := (blk_cell hk 5).trans rfl
            have HB4 := Aside0.mk (HB3.out.trans (hb w.heap.size (by omega)))
            clear hk hb
            go_wp2
            go_ret2
            exact ⟨rfl, HB4.out⟩
          · rw [if_pos ⟨by omega, by omega⟩] at h
            simp only [Option.some.injEq, Prod.mk.injEq] at h
            obtain ⟨rfl, rfl⟩ := h
            have y1b : decide (1000000000 < y) = false := decide_eq_false y1
            clear y0 y1
            go_enter Try.func30, Try.ntmps30
            go_wp2_with (first | (go_at_call 45; refine (cable_warm_valid.calls _ _ _ _ _ _ true _ HV.out).mono ?_; rintro e w2 ⟨rfl, hb2⟩; have HK2 := Aside0.mk ((hb2.block (w.heap.size + 1) (by simp)).trans (second_box _ _ _)); have HB2 := Aside0.mk ((((Below.refl w.heap.size w).alloc (Nat.le_refl _) _).alloc (by simp) _).trans (hb2.mono (by simp; omega))); clear hb2) | (go_at_call 48; refine (cable_wrong.calls _ false _ HW.out).mono ?_; rintro e w3 ⟨rfl, hb3⟩; have HK3 := Aside0.mk ((hb3.below.block _ (blk_lt HK2.out)).trans HK2.out); have HB3 := Aside0.mk (HB2.out.trans (hb3.below.mono HB2.out.size)); clear hb3 HK2 HB2))
            refine (HC.out _ HK3.out).mono ?_
            rintro e w4 ⟨rfl, hk, hb⟩
            have c5 : w4.cell? ⟨w.heap.size + 1, 5, none⟩ = some (.int .i64 y) := (blk_cell hk 5).trans rfl
            have HB4 := Aside0.mk (HB3.out.trans (hb w.heap.size (by omega)))
            clear hk hb
            go_wp2
            go_ret2
            exact ⟨rfl, HB4.out⟩
end Go.Proofs.Ytnbfjdfmpadndaa.Pr
