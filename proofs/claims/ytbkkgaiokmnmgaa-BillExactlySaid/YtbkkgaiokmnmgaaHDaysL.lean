/- Package days over this program: Local and Type come to what is told here. -/
import Derived.Test.YtbkkgaiokmnmgaaHDays
namespace Go.Proofs.Ytbkkgaiokmnmgaa.Pr
open Go.RowKit Go.Proofs.YtbkkgaiokmnmgaaW.PrintWords Go.Proofs.YtbkkgaiokmnmgaaW.PrintLast Go.Proofs.YtbkkgaiokmnmgaaW.PrintMore
set_option linter.unusedVariables false
set_option linter.unusedSimpArgs false

/-! ### Local -/
theorem ascB_gt {most : Int} : ∀ {last : Int} {l : List Int}, ascB most last l = true → ∀ x ∈ l, last < x ∧ x ≤ most
  | last, [], _, x, hx => by cases hx
  | last, k :: r, h, x, hx => by
    simp only [ascB, Bool.and_eq_true, decide_eq_true_eq] at h
    rcases List.mem_cons.1 hx with rfl | hx
    · exact ⟨h.1, h.2.1⟩
    · have := ascB_gt h.2.2 x hx
      exact ⟨by omega, this.2⟩
theorem ascB_pair {most : Int} : ∀ {last : Int} {l : List Int}, ascB most last l = true → l.Pairwise (· < ·)
  | last, [], _ => List.Pairwise.nil
  | last, k :: r, h => by
    simp only [ascB, Bool.and_eq_true, decide_eq_true_eq] at h
    exact List.Pairwise.cons (fun x hx => (ascB_gt h.2.2 x hx).1) (ascB_pair h.2.2)
theorem ascB_mono {most last : Int} {l : List Int} (h : ascB most last l = true) (a b : Nat) (hab : a < b) (hb : b < l.length) : l.getD a 0 < l.getD b 0 := by
  have hp := List.pairwise_iff_getElem.1 (ascB_pair h) a b (by omega) hb hab
  rw [List.getD_eq_getElem?_getD, List.getD_eq_getElem?_getD, List.getElem?_eq_getElem hb, List.getElem?_eq_getElem (by omega)]
  exact hp
theorem map_f0 (l : List S99) (i : Nat) (hi : i < l.length) : (l.map (·.f0)).getD i 0 = (l.getD i z99).f0 := by
  rw [List.getD_eq_getElem?_getD, List.getD_eq_getElem?_getD, List.getElem?_map, List.getElem?_eq_getElem hi]
  rfl
theorem offAt_later (m : Int) : ∀ (o : Int) (l : List S99), (∀ t : Nat, t < l.length → m < (l.getD t z99).f0) → offAt m o l = o
  | _, [], _ => rfl
  | o, x :: r, h => by
    have h0 : m < x.f0 := h 0 (by simp)
    have hx : ¬ x.f0 ≤ m := by omega
    rw [offAt, if_neg hx]
    exact offAt_later m o r fun t ht => by have := h (t + 1) (by simpa using ht); simpa using this
theorem offAt_split (m : Int) : ∀ (o : Int) (l : List S99) (k : Nat), k ≤ l.length → (∀ t : Nat, t < k → (l.getD t z99).f0 ≤ m) → (∀ t : Nat, k ≤ t → t < l.length → m < (l.getD t z99).f0) →
    offAt m o l = if k = 0 then o else (l.getD (k - 1) z99).f1
  | o, l, 0, _, _, h => by rw [if_pos rfl]; exact offAt_later m o l fun t ht => h t (Nat.zero_le _) ht
  | o, [], k + 1, hk, _, _ => by simp at hk
  | o, x :: r, k + 1, hk, h1, h2 => by
    have h0 := h1 0 (by omega)
    have hx : x.f0 ≤ m := by simpa using h0
    rw [offAt, if_pos hx, offAt_split m x.f1 r k (by simpa using hk) (fun t ht => by have := h1 (t + 1) (by omega); simpa using this) (fun t ht hl => by have := h2 (t + 1) (by omega) (by simpa using hl); simpa using this)]
    rw [if_neg (show ¬ k + 1 = 0 by omega), Nat.add_sub_cancel]
    cases k with
    | zero => rfl
    | succ k => rw [if_neg (by omega), Nat.add_sub_cancel]; rfl
/-- What is found by halving is the offset. -/
theorem offAt_found {m o : Int} {l : List S99} {k : Int} (h0 : 0 ≤ k) (hk : k ≤ l.length) (h1 : ∀ t : Nat, (t : Int) < k → decide (m < (rd_T99 l t).f0) = false) (h2 : ∀ t : Nat, k ≤ t → t < l.length → decide (m < (rd_T99 l t).f0) = true) :
    offAt m o l = if k = 0 then o else (rd_T99 l (k - 1)).f1 := by
  rw [offAt_split m o l k.toNat (by omega) (fun t ht => by have := of_decide_eq_false (h1 t (by omega)); unfold rd_T99 at this; rw [Int.toNat_natCast] at this; omega)
    (fun t ht hl => by have := of_decide_eq_true (h2 t (by omega) hl); unfold rd_T99 at this; rw [Int.toNat_natCast] at this; exact this)]
  by_cases hz : k = 0
  · rw [if_pos hz, if_pos (by omega)]
  · rw [if_neg hz, if_neg (by omega)]
    unfold rd_T99
    rw [show (k - 1).toNat = k.toNat - 1 by omega]
set_option maxHeartbeats 2000000 in
theorem Local_1_calls (bc bm : Nat) (A : Option Addr) (c : Nat) (l : List S99) (m i : Int) (W : World) (h0 : 0 ≤ i) (hi : i < (l.length : Int)) (ha : W.cell? ⟨bc, 1, none⟩ = some (.slice A l.length c)) (hx : W.cell? ⟨bm, 0, none⟩ = some (.int .i64 m)) (hr : Kd.C k99 W A l.length l) :
    Calls Try.prog 108 (#[.int .i64 i] ++ #[.pointer (some ⟨bc, 0, none⟩), .pointer (some ⟨bm, 0, none⟩)]) W fun e W' => e = .returned (.bool (decide (m < (rd_T99 l i).f0))) ∧ Below W.heap.size W W' := by
  obtain ⟨ad, rfl, hc, hc1⟩ := at_T99 hr i h0 hi
  generalize rd_T99 l i = y at hc hc1 ⊢
  replace h0 := eq_true h0
  replace hi := eq_true hi
  have hu := Try.underlying99
  have hv := Try.underlying30
  clear hr
  go_enter Try.func108, Try.ntmps108
  go_wp2
  go_quiet (fail)
  go_wp2
  go_ret
  exact ⟨by first | rfl | simp, by repeat (first | exact Below.refl _ _ | apply below_drew | apply pw_below_drewN)⟩
theorem offB_iff {n : Int} : offB n = true ↔ -1440 ≤ n ∧ n ≤ 1440 := by simp [offB]
theorem dvalidB_iff {o : Int} {cs : List S99} {hs : List Int} : dvalidB o cs hs = true ↔ offB o = true ∧ cs.length ≤ 16 ∧ hs.length ≤ 32 ∧ (∀ x ∈ cs, offB x.f1 = true) ∧ ascB 52560000 (-1) (cs.map (·.f0)) = true ∧ ascB 36500 (-1) hs = true := by
  simp only [dvalidB, Bool.and_eq_true, decide_eq_true_eq, List.all_eq_true]
theorem offAt_range (m : Int) : ∀ (o : Int) (l : List S99), offB o = true → (∀ x ∈ l, offB x.f1 = true) → offB (offAt m o l) = true
  | _, [], h, _ => h
  | o, x :: r, h, hl => by
    rw [offAt]
    split
    · exact offAt_range m _ r (hl x (by simp)) (fun y hy => hl y (by simp [hy]))
    · exact offAt_range m _ r h (fun y hy => hl y (by simp [hy]))
set_option maxHeartbeats 4000000 in
theorem days_Local.calls (a0_0 : Int) (A0_1 : Option Addr) (c0_1 : Nat) (l0_1 : List S99) (A0_2 : Option Addr) (c0_2 : Nat) (l0_2 : List Int) (a1 : Int) (r0 r1 r2 : Int) (w : World)
    (hr0_1 : Kd.C k99 w A0_1 l0_1.length l0_1) (hc0_1 : l0_1.length ≤ c0_1) (hr0_2 : Kd.C (Kd.int .i64) w A0_2 l0_2.length l0_2) (hc0_2 : l0_2.length ≤ c0_2) (h : days_Local.f a0_0 l0_1 l0_2 a1 = some (r0, r1, r2)) :
    Calls Try.prog 71 #[.agg #[.int .i64 a0_0, .slice A0_1 l0_1.length c0_1, .slice A0_2 l0_2.length c0_2], .int .i64 a1] w fun e w' => e = .returned (.tuple #[.int .i64 r0, .int .i64 r1, .int .i64 r2]) ∧ Below w.heap.size w w' := by
  have hu := Try.underlying99
  have hv := Try.underlying30
  have HR := Aside0.mk hr0_1
  have HS := Aside0.mk hr0_2
  have HC1 := Aside0.mk hc0_1
  have HC2 := Aside0.mk hc0_2
  clear hr0_1 hr0_2 hc0_1 hc0_2
  by_cases t0 : a1 < 0
  · have t0b : decide (a1 < 0) = true := decide_eq_true t0
    unfold days_Local.f at h
    rw [if_neg (by omega)] at h
    simp only [Option.some.injEq, Prod.mk.injEq] at h
    obtain ⟨rfl, rfl, rfl⟩ := h
    clear t0
    go_enter Try.func71, Try.ntmps71
    go_wp2
    go_ret3
    exact ⟨rfl, ((Below.refl _ _).alloc (Nat.le_refl _) _).alloc (by simp) _⟩
  · have t0b : decide (a1 < 0) = false := decide_eq_false t0
    by_cases t1 : 52560000 < a1
    · have t1b : decide (52560000 < a1) = true := decide_eq_true t1
      unfold days_Local.f at h
      rw [if_neg (by omega)] at h
      simp only [Option.some.injEq, Prod.mk.injEq] at h
      obtain ⟨rfl, rfl, rfl⟩ := h
      clear t0 t1
      go_enter Try.func71, Try.ntmps71
      go_wp2
      go_ret3
      exact ⟨rfl, ((Below.refl _ _).alloc (Nat.le_refl _) _).alloc (by simp) _⟩
    · have t1b : decide (52560000 < a1) = false := decide_eq_false t1
      cases t2 : dvalidB a0_0 l0_1 l0_2 with
      | false =>
        have HV := Aside0.mk (show days_Valid.f a0_0 l0_1 l0_2 = some false by unfold days_Valid.f; rw [t2])
        unfold days_Local.f at h
        rw [if_neg (by rw [t2]; simp)] at h
        simp only [Option.some.injEq, Prod.mk.injEq] at h
        obtain ⟨rfl, rfl, rfl⟩ := h
        clear t0 t1 t2
        go_enter Try.func71, Try.ntmps71
        go_wp2_with (go_at_call 58; refine (days_Valid.calls a0_0 A0_1 c0_1 l0_1 A0_2 c0_2 l0_2 false _ (Kd.C_below HR.out (((Below.refl _ _).alloc (Nat.le_refl _) _).alloc (by simp) _)) HC1.out (Kd.C_below HS.out (((Below.refl _ _).alloc (Nat.le_refl _) _).alloc (by simp) _)) HC2.out HV.out).mono ?_; rintro e w2 ⟨rfl, hb2⟩; have HB2 := Aside0.mk hb2; clear hb2)
        go_ret3
        exact ⟨rfl, (((Below.refl _ _).alloc (Nat.le_refl _) _).alloc (by simp) _).trans (HB2.out.mono (by simp; omega))⟩
      | true =>
        have HV := Aside0.mk (show days_Valid.f a0_0 l0_1 l0_2 = some true by unfold days_Valid.f; rw [t2])
        obtain ⟨v0, v1, _, v3, v4, _⟩ := dvalidB_iff.1 t2
        have hoff := offB_iff.1 (offAt_range a1 a0_0 l0_1 v0 v3)
        unfold days_Local.f at h
        rw [if_pos ⟨by omega, by omega, t2⟩] at h
        simp only [Option.some.injEq, Prod.mk.injEq] at h
        have HE := Aside0.mk h
        have HM := Aside0.mk (show ∀ a b : Nat, a ≤ b → b < l0_1.length → decide (a1 < (rd_T99 l0_1 a).f0) = true → decide (a1 < (rd_T99 l0_1 b).f0) = true from by
          intro a b hab hb ha
          rcases Nat.lt_or_ge a b with hlt | hge
          · have := ascB_mono v4 a b hlt (by simpa using hb)
            rw [map_f0 _ _ (by omega), map_f0 _ _ hb] at this
            unfold rd_T99 at ha ⊢
            rw [Int.toNat_natCast] at ha ⊢
            rw [decide_eq_true_eq] at ha ⊢
            omega
          · obtain rfl : a = b := by omega
            exact ha)
        have eg : ∀ args w, (callFunc 108 args).run Try.prog w = .ok (.enter 108 args) w := enters_of Try.func108 (by kernel_rfl) rfl
        have EG := Aside0.mk eg
        have t3 : 0 ≤ a1 := by omega
        have t4 : a1 ≤ 52560000 := by omega
        have hlen : l0_1.length < 4611686018427387904 := by omega
        clear t0 t1 t2 h v0 v1 v3 v4 eg
        go_enter Try.func71, Try.ntmps71
        go_wp2_with (go_at_call 58; refine (days_Valid.calls a0_0 A0_1 c0_1 l0_1 A0_2 c0_2 l0_2 true _ (Kd.C_below HR.out (((Below.refl _ _).alloc (Nat.le_refl _) _).alloc (by simp) _)) HC1.out (Kd.C_below HS.out (((Below.refl _ _).alloc (Nat.le_refl _) _).alloc (by simp) _)) HC2.out HV.out).mono ?_; rintro e w2 ⟨rfl, hb2⟩; have hz1 := pw_cell_below hb2 (old_cell (.cells #[.int .i64 a1] 3) ((blk_cell (cell3 w (.int .i64 a0_0) (.slice A0_1 l0_1.length c0_1) (.slice A0_2 l0_2.length c0_2) 30) 1).trans rfl)); have hz0 := pw_cell_below hb2 (old_cell (.cells #[.int .i64 a1] 3) ((blk_cell (cell3 w (.int .i64 a0_0) (.slice A0_1 l0_1.length c0_1) (.slice A0_2 l0_2.length c0_2) 30) 0).trans rfl)); have hz3 := pw_cell_below hb2 (new_cell (w.alloc (.cells #[.int .i64 a0_0, .slice A0_1 l0_1.length c0_1, .slice A0_2 l0_2.length c0_2] 30)) (.int .i64 a1) 3); rw [World.size_alloc] at hz3; have HB2 := Aside0.mk ((((Below.refl w.heap.size w).alloc (Nat.le_refl _) _).alloc (by simp) _).trans (hb2.mono (by simp; omega))); clear hb2)
        rw [show (l0_1.length : Int) = ((l0_1.length : Nat) : Int) from rfl]
        refine (lib_Search (g := 108) (cb := #[.pointer (some ⟨w.heap.size, 0, none⟩), .pointer (some ⟨w.heap.size + 1, 0, none⟩)]) l0_1.length (fun t => decide (a1 < (rd_T99 l0_1 t).f0)) w2 EG.out hlen (fun t ht W hW => (Local_1_calls w.heap.size (w.heap.size + 1) A0_1 c0_1 l0_1 a1 t W (by omega) (by omega) (pw_cell_below hW hz1) (pw_cell_below hW hz3) (Kd.C_below HR.out (HB2.out.trans (hW.mono HB2.out.size)))).mono fun e W' ⟨h1, h2⟩ => ⟨h1, hW.trans (h2.mono hW.size)⟩) HM.out).mono ?_
        rintro e w3 ⟨⟨k, rfl, k0, k1, k2, k3⟩, hb3⟩
        have ho := offAt_found (o := a0_0) k0 k1 k2 k3
        clear k2 k3
        replace hz1 := pw_cell_below hb3 hz1
        replace hz0 := pw_cell_below hb3 hz0
        replace hz3 := pw_cell_below hb3 hz3
        have HB3 := Aside0.mk (HB2.out.trans (hb3.mono HB2.out.size))
        clear hb3 HB2
        by_cases kz : k = 0
        · rw [if_pos kz] at ho
          subst kz
          rw [ho] at hoff HE
          clear ho
          go_wp2
          go_ret3
          obtain ⟨rfl, rfl, rfl⟩ := HE.out
          exact ⟨by first | rfl | (simp; done), HB3.out⟩
        · rw [if_neg kz] at ho
          obtain ⟨ad, rfl, hc, hc1⟩ := at_T99 (Kd.C_below HR.out HB3.out) (k - 1) (by omega) (by omega)
          rw [ho] at hoff HE
          clear ho
          generalize rd_T99 l0_1 (k - 1) = x at hc hc1 hoff HE
          rw [show (k - 1).toNat = k.toNat - 1 by omega] at hc hc1
          have kp : decide (0 < k) = true := decide_eq_true (by omega)
          have kq : 0 < k := by omega
          have kr : k - 1 < (l0_1.length : Int) := by omega
          go_wp2
          go_ret3
          obtain ⟨rfl, rfl, rfl⟩ := HE.out
          exact ⟨by first | rfl | (simp; done), HB3.out⟩

/-! ### Type -/
set_option maxHeartbeats 2000000 in
/-- sort.SearchInts of an ascending row. -/
theorem lib_SearchInts (A : Option Addr) (c : Nat) (l : List Int) (x : Int) (w : World) (hr : Kd.C (Kd.int .i64) w A l.length l) (hl : l.length < 4611686018427387904) (hm : ∀ a b : Nat, a ≤ b → b < l.length → decide (x ≤ rd l a) = true → decide (x ≤ rd l b) = true) :
    Calls Try.prog 111 #[.slice A l.length c, .int .i64 x] w fun e w' => SearchPost l.length (fun t => decide (x ≤ rd l t)) e ∧ Below w.heap.size w w' := by
  have hS := lib_Search (g := 129) (cb := #[.pointer (some ⟨w.heap.size, 0, none⟩), .pointer (some ⟨w.heap.size + 1, 0, none⟩)]) l.length (fun t => decide (x ≤ rd l t)) ((w.alloc (.cells #[.slice A l.length c] 28)).alloc (.cells #[.int .i64 x] 3)) (enters_of Try.func129 (by kernel_rfl) rfl) hl
    (fun t ht W hW => (lib_SearchInts_1 w.heap.size (w.heap.size + 1) A c l x t W (by omega) (by omega) (pw_cell_below hW (old_cell _ (new_cell w _ _))) (pw_cell_below hW (by have := new_cell (w.alloc (.cells #[.slice A l.length c] 28)) (.int .i64 x) 3; rwa [World.size_alloc] at this)) (Kd.C_below hr ((((Below.refl _ _).alloc (Nat.le_refl _) _).alloc (by simp) _).trans (hW.mono (by simp; omega))))).mono fun e W' ⟨h1, h2⟩ => ⟨h1, hW.trans (h2.mono hW.size)⟩) hm
  have HS := Aside0.mk hS
  clear hS hm hr
  have hl2 : l.length ≤ 9223372036854775807 := by omega
  go_enter Try.func111, Try.ntmps111
  go_wp2_with (go_at_call 107; refine HS.out.mono ?_; rintro e w2 ⟨⟨k, rfl, hk⟩, hb⟩; have HK := Aside0.mk hk; have HB := Aside0.mk hb; clear hk hb)
  go_ret
  exact ⟨⟨_, rfl, HK.out⟩, (((Below.refl _ _).alloc (Nat.le_refl _) _).alloc (by simp) _).trans (HB.out.mono (by simp; omega))⟩
theorem contains_found {l : List Int} {x k : Int} (h0 : 0 ≤ k) (hk : k ≤ l.length) (h1 : ∀ t : Nat, (t : Int) < k → decide (x ≤ rd l t) = false) (h2 : ∀ t : Nat, k ≤ t → t < l.length → decide (x ≤ rd l t) = true) (hp : l.Pairwise (· < ·)) :
    l.contains x = (decide (k < l.length) && (rd l k == x)) := by
  have hg : ∀ t : Nat, (ht : t < l.length) → rd l t = l[t] := fun t ht => by
    unfold rd; rw [Int.toNat_natCast, List.getD_eq_getElem?_getD, List.getElem?_eq_getElem ht]; rfl
  rw [Bool.eq_iff_iff, List.contains_iff_mem]
  simp only [Bool.and_eq_true, decide_eq_true_eq, beq_iff_eq]
  constructor
  · intro hx
    obtain ⟨t, ht, rfl⟩ := List.getElem_of_mem hx
    have hkt : k ≤ t := by
      apply Int.not_lt.1; intro hlt
      have := of_decide_eq_false (h1 t hlt)
      rw [hg t ht] at this
      omega
    have hkl : k.toNat < l.length := by omega
    refine ⟨by omega, ?_⟩
    have e1 := of_decide_eq_true (h2 k.toNat (by omega) hkl)
    rw [hg k.toNat hkl] at e1
    have e2 : rd l k = l[k.toNat] := by have := hg k.toNat hkl; rwa [Int.toNat_of_nonneg h0] at this
    rw [e2]
    rcases Nat.lt_or_ge k.toNat t with hlt | hge
    · have := List.pairwise_iff_getElem.1 hp k.toNat t hkl ht hlt
      omega
    · have : k.toNat = t := by omega
      subst this; rfl
  · rintro ⟨hkl, rfl⟩
    have hkl' : k.toNat < l.length := by omega
    have e2 : rd l k = l[k.toNat] := by have := hg k.toNat hkl'; rwa [Int.toNat_of_nonneg h0] at this
    rw [e2]; exact List.getElem_mem _
set_option maxHeartbeats 4000000 in
theorem days_Type.calls (a0_0 : Int) (A0_1 : Option Addr) (c0_1 : Nat) (l0_1 : List S99) (A0_2 : Option Addr) (c0_2 : Nat) (l0_2 : List Int) (a1 : Int) (r0 r1 : Int) (w : World)
    (hr0_1 : Kd.C k99 w A0_1 l0_1.length l0_1) (hc0_1 : l0_1.length ≤ c0_1) (hr0_2 : Kd.C (Kd.int .i64) w A0_2 l0_2.length l0_2) (hc0_2 : l0_2.length ≤ c0_2) (h : days_Type.f a0_0 l0_1 l0_2 a1 = some (r0, r1)) :
    Calls Try.prog 74 #[.agg #[.int .i64 a0_0, .slice A0_1 l0_1.length c0_1, .slice A0_2 l0_2.length c0_2], .int .i64 a1] w fun e w' => e = .returned (.tuple #[.int .i64 r0, .int .i64 r1]) ∧ Below w.heap.size w w' := by
  have hv := Try.underlying30
  have HR := Aside0.mk hr0_1
  have HS := Aside0.mk hr0_2
  have HC1 := Aside0.mk hc0_1
  have HC2 := Aside0.mk hc0_2
  clear hr0_1 hr0_2 hc0_1 hc0_2
  by_cases t0 : a1 < -1
  · have t0b : decide (a1 < -1) = true := decide_eq_true t0
    unfold days_Type.f at h
    rw [if_neg (by omega)] at h
    simp only [Option.some.injEq, Prod.mk.injEq] at h
    obtain ⟨rfl, rfl⟩ := h
    clear t0
    go_enter Try.func74, Try.ntmps74
    go_wp2
    go_ret2
    exact ⟨rfl, (Below.refl _ _).alloc (Nat.le_refl _) _⟩
  · have t0b : decide (a1 < -1) = false := decide_eq_false t0
    by_cases t1 : 36501 < a1
    · have t1b : decide (36501 < a1) = true := decide_eq_true t1
      unfold days_Type.f at h
      rw [if_neg (by omega)] at h
      simp only [Option.some.injEq, Prod.mk.injEq] at h
      obtain ⟨rfl, rfl⟩ := h
      clear t0 t1
      go_enter Try.func74, Try.ntmps74
      go_wp2
      go_ret2
      exact ⟨rfl, (Below.refl _ _).alloc (Nat.le_refl _) _⟩
    · have t1b : decide (36501 < a1) = false := decide_eq_false t1
      cases t2 : dvalidB a0_0 l0_1 l0_2 with
      | false =>
        have HV := Aside0.mk (show days_Valid.f a0_0 l0_1 l0_2 = some false by unfold days_Valid.f; rw [t2])
        unfold days_Type.f at h
        rw [if_neg (by rw [t2]; simp)] at h
        simp only [Option.some.injEq, Prod.mk.injEq] at h
        obtain ⟨rfl, rfl⟩ := h
        clear t0 t1 t2
        go_enter Try.func74, Try.ntmps74
        go_wp2_with (go_at_call 58; refine (days_Valid.calls a0_0 A0_1 c0_1 l0_1 A0_2 c0_2 l0_2 false _ (Kd.C_below HR.out ((Below.refl _ _).alloc (Nat.le_refl _) _)) HC1.out (Kd.C_below HS.out ((Below.refl _ _).alloc (Nat.le_refl _) _)) HC2.out HV.out).mono ?_; rintro e w2 ⟨rfl, hb2⟩; have HB2 := Aside0.mk hb2; clear hb2)
        go_ret2
        exact ⟨rfl, ((Below.refl _ _).alloc (Nat.le_refl _) _).trans (HB2.out.mono (by simp))⟩
      | true =>
        have HV := Aside0.mk (show days_Valid.f a0_0 l0_1 l0_2 = some true by unfold days_Valid.f; rw [t2])
        obtain ⟨_, _, v2, _, _, v5⟩ := dvalidB_iff.1 t2
        unfold days_Type.f at h
        rw [if_pos ⟨by omega, by omega, t2⟩] at h
        simp only [Option.some.injEq, Prod.mk.injEq] at h
        have HE := Aside0.mk h
        have HM := Aside0.mk (show ∀ a b : Nat, a ≤ b → b < l0_2.length → decide (a1 ≤ rd l0_2 a) = true → decide (a1 ≤ rd l0_2 b) = true from by
          intro a b hab hb ha
          rcases Nat.lt_or_ge a b with hlt | hge
          · have := ascB_mono v5 a b hlt hb
            unfold rd at ha ⊢
            rw [Int.toNat_natCast] at ha ⊢
            rw [decide_eq_true_eq] at ha ⊢
            omega
          · obtain rfl : a = b := by omega
            exact ha)
        have HP := Aside0.mk (ascB_pair v5)
        have hlen : l0_2.length < 4611686018427387904 := by omega
        have t3 : -1 ≤ a1 := by omega
        have t4 : a1 ≤ 36501 := by omega
        clear t0 t1 t2 h v5 v2
        go_enter Try.func74, Try.ntmps74
        go_wp2_with (go_at_call 58; refine (days_Valid.calls a0_0 A0_1 c0_1 l0_1 A0_2 c0_2 l0_2 true _ (Kd.C_below HR.out ((Below.refl _ _).alloc (Nat.le_refl _) _)) HC1.out (Kd.C_below HS.out ((Below.refl _ _).alloc (Nat.le_refl _) _)) HC2.out HV.out).mono ?_; rintro e w2 ⟨rfl, hb2⟩; have hz2 := pw_cell_below hb2 ((blk_cell (cell3 w (.int .i64 a0_0) (.slice A0_1 l0_1.length c0_1) (.slice A0_2 l0_2.length c0_2) 30) 2).trans rfl); have HB2 := Aside0.mk (((Below.refl w.heap.size w).alloc (Nat.le_refl _) _).trans (hb2.mono (by simp))); clear hb2)
        refine (lib_SearchInts A0_2 c0_2 l0_2 a1 _ (Kd.C_below HS.out HB2.out) hlen HM.out).mono ?_
        rintro e w3 ⟨⟨k, rfl, k0, k1, k2, k3⟩, hb3⟩
        have HF := Aside0.mk (contains_found k0 k1 k2 k3 HP.out)
        clear k2 k3
        replace hz2 := pw_cell_below hb3 hz2
        have HB3 := Aside0.mk (HB2.out.trans (hb3.mono HB2.out.size))
        clear hb3 HB2
        have HX : Aside0 (l0_2.contains a1 = false → (weekOf a1 = r0 ∧ 0 = r1)) := ⟨fun hx => by have := HE.out; rw [hx] at this; simpa using this⟩
        have HY : Aside0 (l0_2.contains a1 = true → (2 = r0 ∧ 0 = r1)) := ⟨fun hx => by have := HE.out; rw [hx] at this; simpa using this⟩
        clear HE
        have hj : ∃ j : Int, (a1 + 7) % 7 = j ∧ 0 ≤ j ∧ j < 7 := ⟨_, rfl, by omega, by omega⟩
        have HW : Aside0 (∀ j : Int, (a1 + 7) % 7 = j → weekOf a1 = if j = 6 then 2 else if j = 5 then 1 else 0) := ⟨fun j hj => by unfold weekOf; rw [hj]⟩
        by_cases kl : k < (l0_2.length : Int)
        · obtain ⟨ad, rfl, hc⟩ := Kd.at_int (Kd.C_below HS.out HB3.out) k k0 kl
          have klb : decide (k < (l0_2.length : Int)) = true := decide_eq_true kl
          rw [klb, Bool.true_and] at HF
          by_cases ke : rd l0_2 k = a1
          · have hx := HF.out
            rw [ke, beq_self_eq_true] at hx
            obtain ⟨rfl, rfl⟩ := HY.out hx
            rw [ke] at hc
            clear HF HX HY hx ke HW hj
            go_wp2
            go_ret2
            exact ⟨by first | rfl | (simp; done), HB3.out⟩
          · have hx := HF.out
            have keb : (rd l0_2 k == a1) = false := beq_eq_false_iff_ne.2 ke
            rw [keb] at hx
            obtain ⟨h1, rfl⟩ := HX.out hx
            obtain ⟨j, hj, j0, j7⟩ := hj
            rw [HW.out j hj] at h1
            have h7 : j = 0 ∨ j = 1 ∨ j = 2 ∨ j = 3 ∨ j = 4 ∨ j = 5 ∨ j = 6 := by omega
            generalize rd l0_2 k = y at hc keb
            clear HF HX HY hx ke HW
            have hj2 : a1 % 7 = j := by omega
            rcases h7 with rfl | rfl | rfl | rfl | rfl | rfl | rfl
            all_goals
              have H1 := Aside0.mk h1
              clear h1 j0 j7
              go_wp2_with (go_at_call 112; refine (week_calls _).mono ?_; rintro e w4 ⟨rfl, hb4⟩; have HB4 := Aside0.mk hb4; clear hb4)
              go_ret2
              exact ⟨by rw [← H1.out]; first | rfl | (simp; done), (HB3.out.trans (HB4.out.mono HB3.out.size)).alloc (Nat.le_trans HB3.out.size HB4.out.size) _⟩
        · have klb : decide (k < (l0_2.length : Int)) = false := decide_eq_false kl
          have hx := HF.out
          rw [klb, Bool.false_and] at hx
          obtain ⟨h1, rfl⟩ := HX.out hx
          obtain ⟨j, hj, j0, j7⟩ := hj
          rw [HW.out j hj] at h1
          have h7 : j = 0 ∨ j = 1 ∨ j = 2 ∨ j = 3 ∨ j = 4 ∨ j = 5 ∨ j = 6 := by omega
          clear HF HX HY hx HW
          have hj2 : a1 % 7 = j := by omega
          rcases h7 with rfl | rfl | rfl | rfl | rfl | rfl | rfl
          all_goals
            have H1 := Aside0.mk h1
            clear h1 j0 j7
            go_wp2_with (go_at_call 112; refine (week_calls _).mono ?_; rintro e w4 ⟨rfl, hb4⟩; have HB4 := Aside0.mk hb4; clear hb4)
            go_ret2
            exact ⟨by rw [← H1.out]; first | rfl | (simp; done), (HB3.out.trans (HB4.out.mono HB3.out.size)).alloc (Nat.le_trans HB3.out.size HB4.out.size) _⟩
end Go.Proofs.Ytbkkgaiokmnmgaa.Pr
