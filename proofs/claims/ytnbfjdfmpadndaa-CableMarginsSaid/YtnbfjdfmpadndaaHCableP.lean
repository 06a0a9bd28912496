/- Package cable over this program: Permitted. -/
import Derived.Test.YtnbfjdfmpadndaaHCableN
namespace Go.Proofs.Ytnbfjdfmpadndaa.Pr
open Go.RowKit Go.Proofs.YtnbfjdfmpadndaaW.PrintWords Go.Proofs.YtnbfjdfmpadndaaW.PrintLast Go.Proofs.YtnbfjdfmpadndaaW.PrintMore
set_option linter.unusedVariables false
set_option linter.unusedSimpArgs false

/-- The greatest current that fits into a room, at most 1000. -/
def permF (G room : Int) : Nat → Int → Int
  | 0, i => i
  | n + 1, i => if G * (i + 1) * (i + 1) ≤ room then permF G room n (i + 1) else i
def roomI (A M L D : Int) : Int := mn L D * (M - A)
def cable_Permitted.f (a0_0 a0_1 a0_2 a0_3 a0_4 : Int) : Option (Int × Int) :=
  if cvalidB a0_0 a0_1 a0_2 a0_3 a0_4 0 = true then (if czeroB a0_0 a0_1 a0_2 a0_3 a0_4 = true then some (1000, 0) else some (permF a0_2 (roomI a0_0 a0_1 a0_3 a0_4) 1000 0, 0)) else some (0, 1)
theorem room_range {A M G L D : Int} (hc : CableOK A M G L D) : 0 ≤ roomI A M L D ∧ roomI A M L D ≤ 200000000 := by
  obtain ⟨a0, am, m1, g0, g1, l0, l1, d0, d1⟩ := hc
  have m0 : 0 ≤ mn L D := mn_ge l0 (by omega)
  have m2 : mn L D ≤ 1000 := Int.le_trans (mn_le_l _ _) l1
  unfold roomI
  have h1 := Int.mul_nonneg m0 (show 0 ≤ M - A by omega)
  have h2 := Int.mul_le_mul m2 (show M - A ≤ 200000 by omega) (by omega) (by omega)
  omega
theorem room_wrap {A M G L D : Int} (hc : CableOK A M G L D) : IntKind.i64.wrap (mn L D * IntKind.i64.wrap (M - A)) = roomI A M L D := by
  have h := room_range hc
  obtain ⟨a0, am, m1, g0, g1, l0, l1, d0, d1⟩ := hc
  unfold roomI at h ⊢
  rw [i64_fit (x := M - A) (by omega) (by omega), i64_fit (by omega) (by omega)]
theorem permF_found {G room k : Int} (k1 : k ≤ 1000) (h1 : ∀ t : Nat, (t : Int) < k → G * (t + 1) * (t + 1) ≤ room) (h2 : ∀ t : Nat, k ≤ t → t < 1000 → ¬ G * (t + 1) * (t + 1) ≤ room) :
    ∀ (n i : Nat), i + n = 1000 → (i : Int) ≤ k → permF G room n i = k
  | 0, i, hi, hk => by rw [permF]; omega
  | n + 1, i, hi, hk => by
    rw [permF]
    by_cases hlt : (i : Int) < k
    · rw [if_pos (h1 i hlt)]
      have := permF_found k1 h1 h2 n (i + 1) (by omega) (by omega)
      simpa using this
    · rw [if_neg (h2 i (by omega) (by omega))]
      omega
set_option maxHeartbeats 1000000 in
theorem Permitted_1_calls (bc bm : Nat) (G room i : Int) (W : World) (h0 : 0 ≤ i) (hi : i < 1000) (g0 : 0 ≤ G) (g1 : G ≤ 1000) (ha : W.cell? ⟨bc, 2, none⟩ = some (.int .i64 G)) (hx : W.cell? ⟨bm, 0, none⟩ = some (.int .i64 room)) :
    Calls Try.prog 47 (#[.int .i64 i] ++ #[.pointer (some ⟨bc, 0, none⟩), .pointer (some ⟨bm, 0, none⟩)]) W fun e W' => e = .returned (.bool (decide (room < G * (i + 1) * (i + 1)))) ∧ Below W.heap.size W W' := by
  have hv := Try.underlying46
  have p1 : 0 ≤ G * (i + 1) := Int.mul_nonneg g0 (by omega)
  have p2 : G * (i + 1) ≤ 1000 * 1000 := Int.mul_le_mul g1 (by omega) (by omega) (by omega)
  have p3 : 0 ≤ G * (i + 1) * (i + 1) := Int.mul_nonneg p1 (by omega)
  have p4 : G * (i + 1) * (i + 1) ≤ 1000000 * 1000 := Int.mul_le_mul (by omega) (by omega) (by omega) (by omega)
  have e1 : IntKind.i64.wrap (G * (i + 1)) = G * (i + 1) := i64_fit (by omega) (by omega)
  have e2 : IntKind.i64.wrap (G * (i + 1) * (i + 1)) = G * (i + 1) * (i + 1) := i64_fit (by omega) (by omega)
  have e1' : wrap64 (G * (i + 1)) = G * (i + 1) := (i64_w _).symm.trans e1
  have e2' : wrap64 (G * (i + 1) * (i + 1)) = G * (i + 1) * (i + 1) := (i64_w _).symm.trans e2
  clear p1 p2 p3 p4 g0 g1
  go_enter Try.func47, Try.ntmps47
  go_wp2
  go_ret
  exact ⟨by first | rfl | (simp; done), Below.refl _ _⟩
set_option maxHeartbeats 1000000 in
theorem Perm_search (bc bm : Nat) (G room : Int) (W : World) (g0 : 0 ≤ G) (g1 : G ≤ 1000) (ha : W.cell? ⟨bc, 2, none⟩ = some (.int .i64 G)) (hx : W.cell? ⟨bm, 0, none⟩ = some (.int .i64 room)) :
    Calls Try.prog 34 #[.int .i64 1000, .func (.func 47) #[] #[.pointer (some ⟨bc, 0, none⟩), .pointer (some ⟨bm, 0, none⟩)]] W fun e w' => e = .returned (.int .i64 (permF G room 1000 0)) ∧ Below W.heap.size W w' := by
  refine (lib_Search (g := 47) (cb := #[.pointer (some ⟨bc, 0, none⟩), .pointer (some ⟨bm, 0, none⟩)]) 1000 (fun t => decide (room < G * (t + 1) * (t + 1))) W (enters_of Try.func47 (by kernel_rfl) rfl) (by omega)
    (fun t ht V hV => (Permitted_1_calls bc bm G room t V (by omega) (by omega) g0 g1 (pw_cell_below hV ha) (pw_cell_below hV hx)).mono fun e W' ⟨h1, h2⟩ => ⟨h1, hV.trans (h2.mono hV.size)⟩) ?_).mono ?_
  · intro a b hab _ h
    rw [decide_eq_true_eq] at h ⊢
    have h1 : G * (a + 1) ≤ G * (b + 1) := Int.mul_le_mul_of_nonneg_left (by omega) g0
    have h2 : 0 ≤ G * ((a : Int) + 1) := Int.mul_nonneg g0 (by omega)
    have h3 : G * (a + 1) * (a + 1) ≤ G * (b + 1) * (b + 1) := Int.mul_le_mul h1 (by omega) (by omega) (by omega)
    omega
  · rintro e w' ⟨⟨k, rfl, k0, k1, k2, k3⟩, hb⟩
    have hpf : permF G room 1000 0 = k := permF_found (G := G) (room := room) (k := k) k1 (fun t ht => by have := of_decide_eq_false (k2 t ht); omega) (fun t ht hl => by have := of_decide_eq_true (k3 t ht hl); omega) 1000 0 (by omega) k0
    exact ⟨by rw [hpf], hb⟩
theorem below_then0 {B : Nat} {w w1 w2 : World} (h : Below B w w1) (k : Below w1.heap.size w1 w2) (hs : B ≤ w.heap.size := by exact Nat.le_refl _) : Below B w w2 := below_then h (Nat.le_trans hs h.size) k
set_option maxHeartbeats 4000000 in
theorem cable_Permitted.calls (a0_0 a0_1 a0_2 a0_3 a0_4 r0 r1 : Int) (w : World) (h : cable_Permitted.f a0_0 a0_1 a0_2 a0_3 a0_4 = some (r0, r1)) :
    Calls Try.prog 29 #[.agg #[.int .i64 a0_0, .int .i64 a0_1, .int .i64 a0_2, .int .i64 a0_3, .int .i64 a0_4]] w fun e w' => e = .returned (.tuple #[.int .i64 r0, .int .i64 r1]) ∧ Below w.heap.size w w' := by
  have hu := Try.underlying67
  have hv := Try.underlying46
  have HV := Aside0.mk (warm_valid a0_0 a0_1 a0_2 a0_3 a0_4 0)
  cases v : cvalidB a0_0 a0_1 a0_2 a0_3 a0_4 0 with
  | false =>
    rw [v] at HV
    unfold cable_Permitted.f at h
    rw [if_neg (by rw [v]; simp)] at h
    simp only [Option.some.injEq, Prod.mk.injEq] at h
    obtain ⟨rfl, rfl⟩ := h
    clear v
    go_enter Try.func29, Try.ntmps29
    go_wp2_with (go_at_call 45; refine (cable_warm_valid.calls _ _ _ _ _ _ false _ HV.out).mono ?_; rintro e w2 ⟨rfl, hb2⟩; have HB2 := Aside0.mk hb2; clear hb2)
    go_ret2
    exact ⟨rfl, (((Below.refl _ _).alloc (Nat.le_refl _) _).alloc (by simp) _).trans (HB2.out.mono (by simp; omega))⟩
  | true =>
    rw [v] at HV
    unfold cable_Permitted.f at h
    rw [if_pos v] at h
    by_cases z : czeroB a0_0 a0_1 a0_2 a0_3 a0_4 = true
    · rw [if_pos z] at h
      simp only [Option.some.injEq, Prod.mk.injEq] at h
      obtain ⟨rfl, rfl⟩ := h
      obtain ⟨rfl, rfl, rfl, rfl, rfl⟩ := czeroB_iff.1 z
      clear v z
      go_enter Try.func29, Try.ntmps29
      go_wp2_with (go_at_call 45; refine (cable_warm_valid.calls _ _ _ _ _ _ true _ HV.out).mono ?_; rintro e w2 ⟨rfl, hb2⟩; have c0 := pw_cell_below hb2 (old_cell (.cells #[.int .i64 0, .int .i64 0, .int .i64 0, .int .i64 0, .int .i64 0, .int .i64 0] 67) ((blk_cell (cell5 w (.int .i64 0) (.int .i64 0) (.int .i64 0) (.int .i64 0) (.int .i64 0) 46) 0).trans rfl)); have c1 := pw_cell_below hb2 (old_cell (.cells #[.int .i64 0, .int .i64 0, .int .i64 0, .int .i64 0, .int .i64 0, .int .i64 0] 67) ((blk_cell (cell5 w (.int .i64 0) (.int .i64 0) (.int .i64 0) (.int .i64 0) (.int .i64 0) 46) 1).trans rfl)); have c2 := pw_cell_below hb2 (old_cell (.cells #[.int .i64 0, .int .i64 0, .int .i64 0, .int .i64 0, .int .i64 0, .int .i64 0] 67) ((blk_cell (cell5 w (.int .i64 0) (.int .i64 0) (.int .i64 0) (.int .i64 0) (.int .i64 0) 46) 2).trans rfl)); have c3 := pw_cell_below hb2 (old_cell (.cells #[.int .i64 0, .int .i64 0, .int .i64 0, .int .i64 0, .int .i64 0, .int .i64 0] 67) ((blk_cell (cell5 w (.int .i64 0) (.int .i64 0) (.int .i64 0) (.int .i64 0) (.int .i64 0) 46) 3).trans rfl)); have c4 := pw_cell_below hb2 (old_cell (.cells #[.int .i64 0, .int .i64 0, .int .i64 0, .int .i64 0, .int .i64 0, .int .i64 0] 67) ((blk_cell (cell5 w (.int .i64 0) (.int .i64 0) (.int .i64 0) (.int .i64 0) (.int .i64 0) 46) 4).trans rfl)); have HB2 := Aside0.mk ((((Below.refl w.heap.size w).alloc (Nat.le_refl _) _).alloc (by simp) _).trans (hb2.mono (by simp; omega))); clear hb2)
      go_ret2
      exact ⟨rfl, HB2.out⟩
    · rw [if_neg z] at h
      simp only [Option.some.injEq, Prod.mk.injEq] at h
      obtain ⟨h, rfl⟩ := h
      simp only [cvalidB, Bool.and_eq_true, Bool.or_eq_true, decide_eq_true_eq] at v
      have hc : CableOK a0_0 a0_1 a0_2 a0_3 a0_4 := cokB_iff.1 (by rcases v.1 with vc | vc; exact vc; exact absurd vc z)
      clear v z
      have dz : (a0_4 == 0) = false := beq_eq_false_iff_ne.2 (by have := hc.d0; omega)
      have HE := Aside0.mk h
      have HC := Aside0.mk hc
      clear h hc
      go_enter Try.func29, Try.ntmps29
      go_wp2_with (go_at_call 45; refine (cable_warm_valid.calls _ _ _ _ _ _ true _ HV.out).mono ?_; rintro e w2 ⟨rfl, hb2⟩; have HK1 := Aside0.mk ((hb2.block w.heap.size (by simp; omega)).trans ((Below.heap_alloc _ _ _ (by simp)).trans (cell5 w (.int .i64 a0_0) (.int .i64 a0_1) (.int .i64 a0_2) (.int .i64 a0_3) (.int .i64 a0_4) 46))); have HK2 := Aside0.mk ((hb2.block (w.heap.size + 1) (by simp)).trans (second_box _ _ _)); have HB2 := Aside0.mk ((((Below.refl w.heap.size w).alloc (Nat.le_refl _) _).alloc (by simp) _).trans (hb2.mono (by simp; omega))); have c0 := (blk_cell HK1.out 0).trans rfl; have c1 := (blk_cell HK1.out 1).trans rfl; have c2 := (blk_cell HK1.out 2).trans rfl; have c3 := (blk_cell HK1.out 3).trans rfl; have c4 := (blk_cell HK1.out 4).trans rfl; clear hb2)
      have e0 : w2.cell? ⟨w.heap.size + 1, 0, none⟩ = some (.int .i64 a0_0) := (blk_cell HK2.out 0).trans rfl
      have e1 : w2.cell? ⟨w.heap.size + 1, 1, none⟩ = some (.int .i64 a0_1) := (blk_cell HK2.out 1).trans rfl
      have e2 : w2.cell? ⟨w.heap.size + 1, 2, none⟩ = some (.int .i64 a0_2) := (blk_cell HK2.out 2).trans rfl
      have e3 : w2.cell? ⟨w.heap.size + 1, 3, none⟩ = some (.int .i64 a0_3) := (blk_cell HK2.out 3).trans rfl
      have e4 : w2.cell? ⟨w.heap.size + 1, 4, none⟩ = some (.int .i64 a0_4) := (blk_cell HK2.out 4).trans rfl
      have e5 : w2.cell? ⟨w.heap.size + 1, 5, none⟩ = some (.int .i64 0) := (blk_cell HK2.out 5).trans rfl
      have HKB := Aside0.mk (show w2.heap[w.heap.size]? = some (.cells #[.int .i64 a0_0, .int .i64 a0_1, .int .i64 a0_2, .int .i64 a0_3, .int .i64 a0_4] 46 (0, 0)) ∧ Below w.heap.size w w2 from ⟨HK1.out, HB2.out⟩)
      have KS := Aside0.mk (show ∀ w', Below w2.heap.size w2 w' → (w'.cell? ⟨w.heap.size + 1, 0, none⟩ = some (.int .i64 a0_0) ∧ w'.cell? ⟨w.heap.size + 1, 1, none⟩ = some (.int .i64 a0_1) ∧ w'.cell? ⟨w.heap.size + 1, 2, none⟩ = some (.int .i64 a0_2) ∧ w'.cell? ⟨w.heap.size + 1, 3, none⟩ = some (.int .i64 a0_3) ∧ w'.cell? ⟨w.heap.size + 1, 4, none⟩ = some (.int .i64 a0_4) ∧ w'.cell? ⟨w.heap.size + 1, 5, none⟩ = some (.int .i64 0) ∧
          Aside0 (Below w2.heap.size w2 w')) from fun w' h => ⟨pw_cell_below h e0, pw_cell_below h e1, pw_cell_below h e2, pw_cell_below h e3, pw_cell_below h e4, pw_cell_below h e5, ⟨h⟩⟩)
      clear c0 c1 c2 c3 c4 HK2 HK1 HB2
      go_region_held3 (fun w' => w'.cell? ⟨w.heap.size + 1, 0, none⟩ = some (.int .i64 a0_0) ∧ w'.cell? ⟨w.heap.size + 1, 1, none⟩ = some (.int .i64 a0_1) ∧ w'.cell? ⟨w.heap.size + 1, 2, none⟩ = some (.int .i64 a0_2) ∧ w'.cell? ⟨w.heap.size + 1, 3, none⟩ = some (.int .i64 a0_3) ∧ w'.cell? ⟨w.heap.size + 1, 4, none⟩ = some (.int .i64 a0_4) ∧ w'.cell? ⟨w.heap.size + 1, 5, none⟩ = some (.int .i64 0) ∧
          Aside0 (Below w2.heap.size w2 w'))
        ((refine KS.out _ ?_; repeat (first | exact Below.refl _ _ | refine below_then0 ?_ hb2 | apply below_alloc | apply below_drew1 | refine below_set ?_ (Nat.le_refl _))))
        (first | (go_at_call 46; refine (cable_warm_loss.calls a0_0 a0_1 a0_2 a0_3 a0_4 0 (mn a0_3 a0_4) _ rfl).mono ?_; rintro e w' ⟨rfl, hb2⟩; have hk := (hb2.block w2.heap.size (by simp)).trans (heap_alloc_new w2.drew (.cells #[.int .i64 0] 3)); have hx : w'.cell? ⟨w2.heap.size, 0, none⟩ = some (.int .i64 0) := (blk_cell hk 0).trans rfl; have hfx := blk_frozen hk 0; clear hk) | (go_at_call 46; refine (cable_warm_loss.calls a0_0 a0_1 a0_2 a0_3 a0_4 0 (mn a0_3 a0_4) _ rfl).mono ?_; rintro e w' ⟨rfl, hb2⟩))
      all_goals
        have hc := HC.out
        rw [room_wrap hc]
      · have hW := below_alloc (below_then0 (below_drew1 (Below.refl _ w2)) hb2) (.cells #[.int .i64 (roomI a0_0 a0_1 a0_3 a0_4)] 3)
        have hz := (hW.cell (p := ⟨w.heap.size, 2, none⟩) (blk_lt HKB.out.1)).trans ((blk_cell HKB.out.1 2).trans rfl)
        have hy := new_cell w' (.int .i64 (roomI a0_0 a0_1 a0_3 a0_4)) 3
        have HB3 := Aside0.mk (HKB.out.2.trans (hW.mono HKB.out.2.size))
        have HP := Aside0.mk (Perm_search w.heap.size w'.heap.size a0_2 (roomI a0_0 a0_1 a0_3 a0_4) _ hc.g0 hc.g1 hz hy)
        generalize w'.heap.size = b at HP ⊢
        generalize w'.alloc (.cells #[.int .i64 (roomI a0_0 a0_1 a0_3 a0_4)] 3) = W3 at HP HB3 ⊢
        clear hz hy hW hb2 e0 e1 e2 e3 e4 e5 hc
        go_wp2_with (go_at_call 34; refine HP.out.mono ?_; rintro e w4 ⟨rfl, hb4⟩; have HB4 := Aside0.mk (HB3.out.trans (hb4.mono HB3.out.size)); clear hb4)
        go_ret2
        exact ⟨by rw [← HE.out]; rfl, HB4.out⟩
      · have hW := below_set (j := 0) (v := .int .i64 (roomI a0_0 a0_1 a0_3 a0_4)) (below_then0 (below_alloc (below_drew1 (Below.refl _ w2)) (.cells #[.int .i64 0] 3)) hb2) (Nat.le_refl _)
        have hz := (hW.cell (p := ⟨w.heap.size, 2, none⟩) (blk_lt HKB.out.1)).trans ((blk_cell HKB.out.1 2).trans rfl)
        have hy := World.cell?_setCell_same' w' ⟨w2.heap.size, 0, none⟩ (.int .i64 (roomI a0_0 a0_1 a0_3 a0_4)) (by rw [hx]; rfl)
        have HB3 := Aside0.mk (HKB.out.2.trans (hW.mono HKB.out.2.size))
        have HP := Aside0.mk (Perm_search w.heap.size w2.heap.size a0_2 (roomI a0_0 a0_1 a0_3 a0_4) _ hc.g0 hc.g1 hz hy)
        clear hx hfx
        generalize w'.setCell ⟨w2.heap.size, 0, none⟩ (.int .i64 (roomI a0_0 a0_1 a0_3 a0_4)) = W3 at HP HB3 ⊢
        clear hz hy hW hb2 e0 e1 e2 e3 e4 e5 hc
        go_wp2_with (go_at_call 34; refine HP.out.mono ?_; rintro e w4 ⟨rfl, hb4⟩; have HB4 := Aside0.mk (HB3.out.trans (hb4.mono HB3.out.size)); clear hb4)
        go_ret2
        exact ⟨by rw [← HE.out]; rfl, HB4.out⟩
end Go.Proofs.Ytnbfjdfmpadndaa.Pr
