/- Package bill over this program: bill. -/
import Derived.Test.YtbkkgaiokmnmgaaHBillL
import Derived.Test.YtbkkgaiokmnmgaaPrx7
/- Package bill over this program: bill. -/
namespace Go.Proofs.Ytbkkgaiokmnmgaa.Pr
open Go.RowKit Go.Proofs.YtbkkgaiokmnmgaaW.PrintWords Go.Proofs.YtbkkgaiokmnmgaaW.PrintLast Go.Proofs.YtbkkgaiokmnmgaaW.PrintMore
set_option linter.unusedVariables false
set_option linter.unusedSimpArgs false
theorem hinfoI : (Try.prog.info? 3).map (fun i => (i.zero, i.size, i.bytes)) = some (some (.int .i64 0), 1, 8) := by kernel_rfl
theorem hinfoL : (Try.prog.info? 48).map (fun i => (i.zero, i.size, i.bytes)) = some (some (.agg #[(.int .i64 0), (.int .i64 0)]), 2, 16) := by kernel_rfl
/-! ### what is computed -/
structure BSt where
  err : Int
  rate : Int
  caps : List Int
  lines : List S48
  net : Int
/-- What the articles of a tariff come to, from one of them on. -/
def billGo (o : Int) (cs : List S99) (hs : List Int) (s0 s1 s2 : Int) (sl : List S50) : List S26 → Int → Int → List Int → List S48 → Int → BSt
  | [], _, rate, caps, lines, net => ⟨0, rate, caps, lines, net⟩
  | a :: l, i, rate, caps, lines, net =>
    if a.f0 = 6 then billGo o cs hs s0 s1 s2 sl l (i + 1) a.f4 caps lines net
    else if a.f0 = 5 then billGo o cs hs s0 s1 s2 sl l (i + 1) rate (caps ++ [a.f4]) lines net
    else if (costV (appB a o cs hs) a.f0 a.f4 a.f5 a.f6 s0 s1 s2 sl).2 = 0 then
      billGo o cs hs s0 s1 s2 sl l (i + 1) rate caps (lines ++ [⟨i, (costV (appB a o cs hs) a.f0 a.f4 a.f5 a.f6 s0 s1 s2 sl).1⟩]) (net + (costV (appB a o cs hs) a.f0 a.f4 a.f5 a.f6 s0 s1 s2 sl).1)
    else ⟨(costV (appB a o cs hs) a.f0 a.f4 a.f5 a.f6 s0 s1 s2 sl).2, 0, [], [], 0⟩
/-- The least of some numbers. -/
def capMin : List Int → Int
  | [] => 0
  | x :: l => l.foldl mn x
structure BOut where
  err : Int
  lines : List S48
  net : Int
  tax : Int
  total : Int
def billEnd (b : BSt) : BOut :=
  if b.err = 0 then
    (if 1000000000 < (if b.caps = [] then b.net else mn b.net (capMin b.caps)) then ⟨3, [], 0, 0, 0⟩
    else if (money_Tax.v (if b.caps = [] then b.net else mn b.net (capMin b.caps)) b.rate).2 = 0 then
      (if 1000000000 < (if b.caps = [] then b.net else mn b.net (capMin b.caps)) + (money_Tax.v (if b.caps = [] then b.net else mn b.net (capMin b.caps)) b.rate).1 then ⟨3, [], 0, 0, 0⟩
      else ⟨0, b.lines, if b.caps = [] then b.net else mn b.net (capMin b.caps), (money_Tax.v (if b.caps = [] then b.net else mn b.net (capMin b.caps)) b.rate).1, (if b.caps = [] then b.net else mn b.net (capMin b.caps)) + (money_Tax.v (if b.caps = [] then b.net else mn b.net (capMin b.caps)) b.rate).1⟩)
    else ⟨(money_Tax.v (if b.caps = [] then b.net else mn b.net (capMin b.caps)) b.rate).2, [], 0, 0, 0⟩)
  else ⟨b.err, [], 0, 0, 0⟩
def billO (o : Int) (cs : List S99) (hs : List Int) (s0 s1 s2 : Int) (sl : List S50) (t : List S26) : BOut := billEnd (billGo o cs hs s0 s1 s2 sl t 0 0 [] [] 0)
/-- How bill ends. -/
def BillPost (w : World) (r : BOut) (e : Ending) (w' : World) : Prop :=
  (if r.err = 0 then ∃ v : Value, e = .returned (.agg #[v, .int .i64 r.net, .int .i64 r.tax, .int .i64 r.total]) ∧ Kd.R k48 48 w' w.heap.size (fun _ => True) v r.lines else e = .panicked (errP r.err)) ∧ Below w.heap.size w w'
theorem capMin_l0 (l : List Int) (hl : l.length ≤ 9223372036854775806) : ∀ (d k : Nat) (i m : Int), 0 ≤ i → i ≤ l.length → (l.length : Int) - i = d → d < k → slices_Min_int_int.l0 k l m i = some ((l.drop i.toNat).foldl mn m) := by
  intro d
  induction d with
  | zero =>
    intro k i m h0 h1 hd hk
    obtain ⟨k, rfl⟩ : ∃ m, k = m + 1 := ⟨k - 1, by omega⟩
    simp only [slices_Min_int_int.l0]
    rw [if_neg (by omega), List.drop_eq_nil_of_le (by omega)]
    rfl
  | succ d ih =>
    intro k i m h0 h1 hd hk
    obtain ⟨k, rfl⟩ : ∃ m, k = m + 1 := ⟨k - 1, by omega⟩
    have hlt : i < (l.length : Int) := by omega
    rw [drop_rdI h0 hlt, List.foldl_cons]
    simp only [slices_Min_int_int.l0]
    rw [if_pos hlt, if_pos h0, wrap_fit64 (by omega) (by omega)]
    exact ih k (i + 1) _ (by omega) (by omega) (by omega) (by omega)
theorem capMin_f (k : Nat) (l : List Int) (hl : l.length ≤ 9223372036854775806) (hk : l.length < k) (hn : l ≠ []) : slices_Min_int_int.f k l = some (capMin l) := by
  cases l with
  | nil => exact absurd rfl hn
  | cons x l =>
    unfold slices_Min_int_int.f
    rw [if_neg (by simp only [List.length_cons]; omega), if_pos (by simp only [List.length_cons]; omega), capMin_l0 (x :: l) hl l.length k 1 (rd (x :: l) 0) (by omega) (by simp only [List.length_cons]; omega) (by simp only [List.length_cons]; omega) (by simp only [List.length_cons] at hk; omega)]
    rfl
theorem units_bd (p : Int → Bool) (a b c d : Int) (n : Nat) : 0 ≤ (unitsV p a b c d n).1 ∧ (unitsV p a b c d n).1 ≤ 1000000000 := outP_le _ _
theorem times_bd (a b c : Int) : 0 ≤ (money_Times.v a b c).1 ∧ (money_Times.v a b c).1 ≤ 1000000000 := outP_le _ _
theorem tax_bd (a b : Int) : 0 ≤ (money_Tax.v a b).1 ∧ (money_Tax.v a b).1 ≤ 1000000000 := outP_le _ _
theorem tax_arg {m r n : Int} (h : money_Tax.v m r = (n, 0)) : 0 ≤ m := by
  unfold money_Tax.v outP at h
  by_cases g : (0 ≤ m ∧ m ≤ 1000000000) ∧ (0 ≤ r ∧ r ≤ 100000)
  · exact g.1.1
  · rw [if_neg (by simpa using g)] at h
    simp at h
theorem cost_bd (p : Int → Bool) (a0 a4 a5 a6 s0 s1 s2 : Int) (l : List S50) (h : 0 ≤ a4 ∧ a4 ≤ 1000000) : 0 ≤ (costV p a0 a4 a5 a6 s0 s1 s2 l).1 ∧ (costV p a0 a4 a5 a6 s0 s1 s2 l).1 ≤ 1000000000 := by
  unfold costV
  split
  · unfold startV; split <;> omega
  split
  · exact times_bd _ _ _
  split
  · exact units_bd _ _ _ _ _ _
  · exact units_bd _ _ _ _ _ _
theorem below_then1 {w w1 w2 : World} (h : Below w.heap.size w w1) (k : Below w1.heap.size w1 w2) : Below w.heap.size w w2 := h.trans (k.mono h.size)
theorem post_bad {w w' : World} {r : BOut} {e : Ending} (c : Int) (hr : r = ⟨c, [], 0, 0, 0⟩) (hc : c ≠ 0) (he : e = .panicked (errP c)) (hb : Below w.heap.size w w') : BillPost w r e w' := by
  subst hr
  exact ⟨by rw [if_neg hc]; exact he, hb⟩
theorem post_ok {w w' : World} {r : BOut} {e : Ending} {v : Value} (lines : List S48) (m n t : Int) (hr : r = ⟨0, lines, m, n, t⟩) (he : e = .returned (.agg #[v, .int .i64 m, .int .i64 n, .int .i64 t])) (hR : Kd.R k48 48 w' w.heap.size (fun _ => True) v lines) (hb : Below w.heap.size w w') : BillPost w r e w' := by
  subst hr
  exact ⟨by rw [if_pos rfl]; exact ⟨v, he, hR⟩, hb⟩
set_option maxRecDepth 1000000 in
set_option maxHeartbeats 8000000 in
theorem bill_calls (n0 : ByteArray) (A0 : Option Addr) (c0 : Nat) (l0 : List S26) (o : Int) (A1 : Option Addr) (c1 : Nat) (l1 : List S99) (A2 : Option Addr) (c2 : Nat) (l2 : List Int) (s0 s1 s2 : Int) (A3 : Option Addr) (c3 : Nat) (l3 : List S50) (w : World)
    (hr0 : Kd.C k26 w A0 l0.length l0) (hc0 : l0.length ≤ c0) (hr1 : Kd.C k99 w A1 l1.length l1) (hc1 : l1.length ≤ c1) (hr2 : Kd.C (Kd.int .i64) w A2 l2.length l2) (hc2 : l2.length ≤ c2) (hr3 : Kd.C k50 w A3 l3.length l3) (hc3 : l3.length ≤ c3)
    (ht : tvalB n0 l0 = true) (hs : svalB s0 s1 s2 l3 = true) :
    Calls Try.prog 61 #[.agg #[.string n0, .slice A0 l0.length c0], .agg #[.int .i64 o, .slice A1 l1.length c1, .slice A2 l2.length c2], .agg #[.int .i64 s0, .int .i64 s1, .int .i64 s2, .slice A3 l3.length c3]] w (BillPost w (billO o l1 l2 s0 s1 s2 l3 l0)) := by
  have HR0 := Aside0.mk hr0
  have HR1 := Aside0.mk hr1
  have HR2 := Aside0.mk hr2
  have HR3 := Aside0.mk hr3
  have HC := Aside0.mk (And.intro hc0 (And.intro hc1 (And.intro hc2 hc3)))
  have HV := Aside0.mk (And.intro ht hs)
  have hlen : l0.length ≤ 12 := by
    unfold tvalB at ht
    rw [Bool.and_eq_true, Bool.and_eq_true, Bool.and_eq_true, decide_eq_true_eq, decide_eq_true_eq] at ht
    exact ht.2.2.1
  have HART : Aside0 (∀ x ∈ l0, artOK x = true) := ⟨by
    unfold tvalB at ht
    rw [Bool.and_eq_true] at ht
    exact List.all_eq_true.1 ht.1⟩
  clear hr0 hr1 hr2 hr3 hc0 hc1 hc2 hc3 ht hs
  go_enter Try.func61, Try.ntmps61
  go_wp2
  obtain ⟨W0, hW0, hB0, hsz, h1, h2, h3, h4, h5⟩ := five_blocks w (.cells #[.string n0, .slice A0 l0.length c0] 24) (.cells #[.int .i64 o, .slice A1 l1.length c1, .slice A2 l2.length c2] 30) (.cells #[.int .i64 s0, .int .i64 s1, .int .i64 s2, .slice A3 l3.length c3] 33) (.cells #[.slice none 0 0, .int .i64 0, .int .i64 0, .int .i64 0] 38) (.cells #[.slice none 0 0, .int .i64 0, .int .i64 0, .int .i64 0] 38)
  rw [hW0]
  clear hW0
  have HLEN := Aside0.mk hlen
  clear hlen
  have HB0 := Aside0.mk hB0
  have K2 := Aside0.mk h2
  have K3 := Aside0.mk h3
  have K4 := Aside0.mk h4
  have K5 := Aside0.mk h5
  clear hB0 h1 h2 h3 h4 h5
  go_loopw [8, 9, 17] (fun s8 s9 s17 wr => ∃ (i rate net : Int) (caps : List Int) (vc vl : Value) (lines : List S48), s8 = .int .i64 rate ∧ vc = s9 ∧ s17 = .int .i64 i ∧ 0 ≤ i ∧ i ≤ l0.length ∧ 0 ≤ net ∧ net ≤ 1000000000 * i ∧ Aside0 ((caps.length : Int) ≤ i ∧ (lines.length : Int) ≤ i) ∧
    Aside0 (Below w.heap.size w wr) ∧ Aside0 (Kd.R (Kd.int .i64) 3 wr w.heap.size (fun _ => True) vc caps) ∧ Aside0 (Kd.R k48 48 wr w.heap.size (fun _ => True) vl lines) ∧
    Aside0 (wr.heap[w.heap.size + 1]? = some (.cells #[.int .i64 o, .slice A1 l1.length c1, .slice A2 l2.length c2] 30 (0, 0))) ∧ Aside0 (wr.heap[w.heap.size + 1 + 1]? = some (.cells #[.int .i64 s0, .int .i64 s1, .int .i64 s2, .slice A3 l3.length c3] 33 (0, 0))) ∧ Aside0 (wr.heap[w.heap.size + 1 + 1 + 1]? = some (.cells #[.slice none 0 0, .int .i64 0, .int .i64 0, .int .i64 0] 38 (0, 0))) ∧
    Aside0 (wr.heap[w.heap.size + 1 + 1 + 1 + 1]? = some (.cells #[vl, .int .i64 net, .int .i64 0, .int .i64 0] 38 (0, 0))) ∧ Aside0 (billGo o l1 l2 s0 s1 s2 l3 l0 0 0 [] [] 0 = billGo o l1 l2 s0 s1 s2 l3 (l0.drop i.toNat) i rate caps lines net)) (fun _ _ s17 _ => l0.length - (intOf s17).toNat)
  case atStart => exact ⟨0, 0, 0, [], .slice none 0 0, .slice none 0 0, [], rfl, rfl, rfl, Int.le_refl _, by omega, Int.le_refl _, by omega, ⟨⟨by simp, by simp⟩⟩, HB0, ⟨Kd.R_nil _ _ _ _ _⟩, ⟨Kd.R_nil _ _ _ _ _⟩, K2, K3, K4, K5, ⟨rfl⟩⟩
  case round =>
    clear HB0 K2 K3 K4 K5 hsz
    obtain ⟨i, rate, net, caps, vc, vl, lines, rfl, rfl, rfl, h0, h1, hn0, hn1, HLL, HB, HRC, HRL, HKC, HKS, HKR, HKB, HGO⟩ := hrel
    have h12 : i ≤ 12 := by have := HLEN.out; omega
    by_cases hlt : i < (l0.length : Int)
    · obtain ⟨ad, rfl, x0, x1, x2, x3, x4, x5, x6⟩ := at_T26 HR0.out i h0 hlt
      have hd := drop_rdA h0 hlt
      have hmem : rd_T26 l0 i ∈ l0 := List.mem_of_mem_drop (hd ▸ List.mem_cons_self ..)
      have HAP := Aside0.mk (HART.out _ hmem)
      clear hmem
      generalize rd_T26 l0 i = x at x0 x1 x2 x3 x4 x5 x6 hd HAP
      have HD := Aside0.mk hd
      clear hd
      replace x0 := (HB.out.cell (World.block_lt_of_cell? w _ x0)).trans x0
      replace x1 := (HB.out.cell (World.block_lt_of_cell? w _ x1)).trans x1
      replace x2 := (HB.out.cell (World.block_lt_of_cell? w _ x2)).trans x2
      replace x3 := (HB.out.cell (World.block_lt_of_cell? w _ x3)).trans x3
      replace x4 := (HB.out.cell (World.block_lt_of_cell? w _ x4)).trans x4
      replace x5 := (HB.out.cell (World.block_lt_of_cell? w _ x5)).trans x5
      replace x6 := (HB.out.cell (World.block_lt_of_cell? w _ x6)).trans x6
      have HBa : Aside0 (Below w.heap.size w (wr.alloc (.cells #[.int .i64 x.f0, .int .i64 x.f1, .int .i64 x.f2, .int .i64 x.f3, .int .i64 x.f4, .int .i64 x.f5, .int .i64 x.f6] 26))) := ⟨HB.out.alloc HB.out.size _⟩
      have y0 : (wr.alloc (.cells #[.int .i64 x.f0, .int .i64 x.f1, .int .i64 x.f2, .int .i64 x.f3, .int .i64 x.f4, .int .i64 x.f5, .int .i64 x.f6] 26)).cell? ⟨w.heap.size + 1, 0, none⟩ = some (.int .i64 o) := old_cell _ ((blk_cell HKC.out 0).trans rfl)
      have y1 : (wr.alloc (.cells #[.int .i64 x.f0, .int .i64 x.f1, .int .i64 x.f2, .int .i64 x.f3, .int .i64 x.f4, .int .i64 x.f5, .int .i64 x.f6] 26)).cell? ⟨w.heap.size + 1, 1, none⟩ = some (.slice A1 l1.length c1) := old_cell _ ((blk_cell HKC.out 1).trans rfl)
      have y2 : (wr.alloc (.cells #[.int .i64 x.f0, .int .i64 x.f1, .int .i64 x.f2, .int .i64 x.f3, .int .i64 x.f4, .int .i64 x.f5, .int .i64 x.f6] 26)).cell? ⟨w.heap.size + 1, 2, none⟩ = some (.slice A2 l2.length c2) := old_cell _ ((blk_cell HKC.out 2).trans rfl)
      have z0 : (wr.alloc (.cells #[.int .i64 x.f0, .int .i64 x.f1, .int .i64 x.f2, .int .i64 x.f3, .int .i64 x.f4, .int .i64 x.f5, .int .i64 x.f6] 26)).cell? ⟨w.heap.size + 1 + 1, 0, none⟩ = some (.int .i64 s0) := old_cell _ ((blk_cell HKS.out 0).trans rfl)
      have z1 : (wr.alloc (.cells #[.int .i64 x.f0, .int .i64 x.f1, .int .i64 x.f2, .int .i64 x.f3, .int .i64 x.f4, .int .i64 x.f5, .int .i64 x.f6] 26)).cell? ⟨w.heap.size + 1 + 1, 1, none⟩ = some (.int .i64 s1) := old_cell _ ((blk_cell HKS.out 1).trans rfl)
      have z2 : (wr.alloc (.cells #[.int .i64 x.f0, .int .i64 x.f1, .int .i64 x.f2, .int .i64 x.f3, .int .i64 x.f4, .int .i64 x.f5, .int .i64 x.f6] 26)).cell? ⟨w.heap.size + 1 + 1, 2, none⟩ = some (.int .i64 s2) := old_cell _ ((blk_cell HKS.out 2).trans rfl)
      have z3 : (wr.alloc (.cells #[.int .i64 x.f0, .int .i64 x.f1, .int .i64 x.f2, .int .i64 x.f3, .int .i64 x.f4, .int .i64 x.f5, .int .i64 x.f6] 26)).cell? ⟨w.heap.size + 1 + 1, 3, none⟩ = some (.slice A3 l3.length c3) := old_cell _ ((blk_cell HKS.out 3).trans rfl)
      by_cases k6 : x.f0 = 6
      · have g6 : (x.f0 == 6) = true := beq_iff_eq.2 k6
        have HG2 : Aside0 (billGo o l1 l2 s0 s1 s2 l3 l0 0 0 [] [] 0 = billGo o l1 l2 s0 s1 s2 l3 (l0.drop (i + 1).toNat) (i + 1) x.f4 caps lines net) := ⟨by rw [HGO.out, HD.out, billGo, if_pos k6]⟩
        have HKI := Aside0.mk k6
        have g5 : (x.f0 == 5) = false := beq_eq_false_iff_ne.2 (by omega)
        clear k6
        go_wp2_with (go_at_call 64; refine (cost_none _ _ _ _ _ _ _ _ _ _ _ _ _ _ _ (by have := HKI.out; omega)).mono ?_; rintro e w2 ⟨rfl, hb2⟩; have HB2 := Aside0.mk hb2; clear hb2)
        go_roundw
        case rel => exact ⟨i + 1, x.f4, net, caps, _, vl, lines, rfl, rfl, rfl, by omega, by omega, by omega, by omega, ⟨by have := HLL.out; omega⟩, ⟨HBa.out.trans (HB2.out.mono HBa.out.size)⟩, ⟨Kd.R_below (Kd.R_alloc HRC.out _) HB2.out⟩, ⟨Kd.R_below (Kd.R_alloc HRL.out _) HB2.out⟩, ⟨((HB2.out.block _ (by simp; have := blk_lt HKC.out; omega)).trans ((Below.heap_alloc _ _ _ (blk_lt HKC.out)).trans HKC.out))⟩, ⟨((HB2.out.block _ (by simp; have := blk_lt HKS.out; omega)).trans ((Below.heap_alloc _ _ _ (blk_lt HKS.out)).trans HKS.out))⟩, ⟨((HB2.out.block _ (by simp; have := blk_lt HKR.out; omega)).trans ((Below.heap_alloc _ _ _ (blk_lt HKR.out)).trans HKR.out))⟩, ⟨((HB2.out.block _ (by simp; have := blk_lt HKB.out; omega)).trans ((Below.heap_alloc _ _ _ (blk_lt HKB.out)).trans HKB.out))⟩, HG2⟩
        case measure => simp [intOf]; omega
      by_cases k5 : x.f0 = 5
      · have g6 : (x.f0 == 6) = false := beq_eq_false_iff_ne.2 k6
        have g5 : (x.f0 == 5) = true := beq_iff_eq.2 k5
        have HG2 : Aside0 (billGo o l1 l2 s0 s1 s2 l3 l0 0 0 [] [] 0 = billGo o l1 l2 s0 s1 s2 l3 (l0.drop (i + 1).toNat) (i + 1) rate (caps ++ [x.f4]) lines net) := ⟨by rw [HGO.out, HD.out, billGo, if_neg k6, if_pos k5]⟩
        have HKI := Aside0.mk k5
        clear k6 k5
        go_wp2_with (first | ((with_reducible refine gate_builtin (b := .append) (xs := #[.tmp 30, .tmp 33]) rfl ?_); at_builtin; refine Kd.R_append (Kd.int .i64) (w0 := w) w.heap.size rfl (.tmp 30) (.tmp 33) 28 3 (.int .i64 0) 8 rfl Try.underlying28 hinfoI rfl (by decide) (by omega) _ caps x.f4 [.int .i64 x.f4] (fun _ => True) (fun _ => False) rfl (by first | (go_simp; done) | (go_simp; rfl)) ?aP (fun _ hk => hk.elim) (fun _ _ => trivial) ?aO ?aB ?aS ?aL ?_; (case aP => rfl); (case aO => exact Kd.R_alloc HRC.out _); (case aB => exact HBa.out); (case aS => exact HBa.out.size); (case aL => have := HLL.out; omega); intro vd w1 ho hb hg hat; have HRC1 := Aside0.mk ho; have HB1 := Aside0.mk hb; have KC1 := Aside0.mk (blk_grown ((Below.heap_alloc _ _ _ (blk_lt HKC.out)).trans HKC.out) hg (Kd.R_ne HRC.out HKC.out (by decide))); have KS1 := Aside0.mk (blk_grown ((Below.heap_alloc _ _ _ (blk_lt HKS.out)).trans HKS.out) hg (Kd.R_ne HRC.out HKS.out (by decide))); have KR1 := Aside0.mk (blk_grown ((Below.heap_alloc _ _ _ (blk_lt HKR.out)).trans HKR.out) hg (Kd.R_ne HRC.out HKR.out (by decide))); have KB1 := Aside0.mk (blk_grown ((Below.heap_alloc _ _ _ (blk_lt HKB.out)).trans HKB.out) hg (Kd.R_ne HRC.out HKB.out (by decide))); have KA1 := Aside0.mk (blk_grown (World.alloc_heap_new wr (.cells #[.int .i64 x.f0, .int .i64 x.f1, .int .i64 x.f2, .int .i64 x.f3, .int .i64 x.f4, .int .i64 x.f5, .int .i64 x.f6] 26)) hg (Kd.R_ne (Kd.R_alloc HRC.out _) (World.alloc_heap_new wr (.cells #[.int .i64 x.f0, .int .i64 x.f1, .int .i64 x.f2, .int .i64 x.f3, .int .i64 x.f4, .int .i64 x.f5, .int .i64 x.f6] 26)) (by decide))); have HRL1 := Aside0.mk (Kd.R_over (Kd.R_alloc HRL.out _) (Kd.R_alloc HRC.out _) (by decide) hg); clear ho hb hg hat y0 y1 y2 z0 z1 z2 z3; have p0 : w1.cell? ⟨wr.heap.size, 0, none⟩ = some (.int .i64 x.f0) := (blk_cell KA1.out 0).trans rfl; have p1 : w1.cell? ⟨wr.heap.size, 1, none⟩ = some (.int .i64 x.f1) := (blk_cell KA1.out 1).trans rfl; have p2 : w1.cell? ⟨wr.heap.size, 2, none⟩ = some (.int .i64 x.f2) := (blk_cell KA1.out 2).trans rfl; have p3 : w1.cell? ⟨wr.heap.size, 3, none⟩ = some (.int .i64 x.f3) := (blk_cell KA1.out 3).trans rfl; have p4 : w1.cell? ⟨wr.heap.size, 4, none⟩ = some (.int .i64 x.f4) := (blk_cell KA1.out 4).trans rfl; have p5 : w1.cell? ⟨wr.heap.size, 5, none⟩ = some (.int .i64 x.f5) := (blk_cell KA1.out 5).trans rfl; have p6 : w1.cell? ⟨wr.heap.size, 6, none⟩ = some (.int .i64 x.f6) := (blk_cell KA1.out 6).trans rfl; have y0 : w1.cell? ⟨w.heap.size + 1, 0, none⟩ = some (.int .i64 o) := (blk_cell KC1.out 0).trans rfl; have y1 : w1.cell? ⟨w.heap.size + 1, 1, none⟩ = some (.slice A1 l1.length c1) := (blk_cell KC1.out 1).trans rfl; have y2 : w1.cell? ⟨w.heap.size + 1, 2, none⟩ = some (.slice A2 l2.length c2) := (blk_cell KC1.out 2).trans rfl; have z0 : w1.cell? ⟨w.heap.size + 1 + 1, 0, none⟩ = some (.int .i64 s0) := (blk_cell KS1.out 0).trans rfl; have z1 : w1.cell? ⟨w.heap.size + 1 + 1, 1, none⟩ = some (.int .i64 s1) := (blk_cell KS1.out 1).trans rfl; have z2 : w1.cell? ⟨w.heap.size + 1 + 1, 2, none⟩ = some (.int .i64 s2) := (blk_cell KS1.out 2).trans rfl; have z3 : w1.cell? ⟨w.heap.size + 1 + 1, 3, none⟩ = some (.slice A3 l3.length c3) := (blk_cell KS1.out 3).trans rfl) | (go_at_call 64; refine (cost_none _ _ _ _ _ _ _ _ _ _ _ _ _ _ _ (by have := HKI.out; omega)).mono ?_; rintro e w2 ⟨rfl, hb2⟩; have HB2 := Aside0.mk hb2; clear hb2))
        go_roundw
        case rel => exact ⟨i + 1, rate, net, caps ++ [x.f4], _, vl, lines, rfl, rfl, rfl, by omega, by omega, by omega, by omega, ⟨by have := HLL.out; rw [List.length_append, List.length_singleton]; omega⟩, ⟨HB1.out.trans (HB2.out.mono HB1.out.size)⟩, ⟨Kd.R_below HRC1.out HB2.out⟩, ⟨Kd.R_below HRL1.out HB2.out⟩, ⟨(HB2.out.block _ (blk_lt KC1.out)).trans KC1.out⟩, ⟨(HB2.out.block _ (blk_lt KS1.out)).trans KS1.out⟩, ⟨(HB2.out.block _ (blk_lt KR1.out)).trans KR1.out⟩, ⟨(HB2.out.block _ (blk_lt KB1.out)).trans KB1.out⟩, HG2⟩
        case measure => simp [intOf]; omega
      have k14 : 1 ≤ x.f0 ∧ x.f0 ≤ 4 := by have h := of_decide_eq_true HAP.out; unfold ArtP at h; omega
      have g6 : (x.f0 == 6) = false := beq_eq_false_iff_ne.2 k6
      have g5 : (x.f0 == 5) = false := beq_eq_false_iff_ne.2 k5
      have HU := Aside0.mk (cost_at x.f0 x.f1 x.f2 x.f3 x.f4 x.f5 x.f6 o s0 s1 s2 A1 c1 l1 A2 c2 l2 A3 c3 l3 (wr.alloc (.cells #[.int .i64 x.f0, .int .i64 x.f1, .int .i64 x.f2, .int .i64 x.f3, .int .i64 x.f4, .int .i64 x.f5, .int .i64 x.f6] 26)) (Kd.C_below HR1.out HBa.out) HC.out.2.1 (Kd.C_below HR2.out HBa.out) HC.out.2.2.1 (Kd.C_below HR3.out HBa.out) HC.out.2.2.2 HAP.out HV.out.2 k14)
      have hcb := cost_bd (appB ⟨x.f0, x.f1, x.f2, x.f3, x.f4, x.f5, x.f6⟩ o l1 l2) x.f0 x.f4 x.f5 x.f6 s0 s1 s2 l3 (by have h := of_decide_eq_true HAP.out; unfold ArtP at h; omega)
      obtain ⟨v, hv⟩ : ∃ v, costV (appB x o l1 l2) x.f0 x.f4 x.f5 x.f6 s0 s1 s2 l3 = v := ⟨_, rfl⟩
      change Aside0 (Calls _ _ _ _ fun e w' => e = outC (costV (appB x o l1 l2) x.f0 x.f4 x.f5 x.f6 s0 s1 s2 l3) ∧ _) at HU
      change 0 ≤ (costV (appB x o l1 l2) x.f0 x.f4 x.f5 x.f6 s0 s1 s2 l3).1 ∧ _ at hcb
      rw [hv] at HU hcb
      obtain ⟨hcb0, hcb1⟩ := hcb
      by_cases g : v.2 = 0
      · have HG2 : Aside0 (billGo o l1 l2 s0 s1 s2 l3 l0 0 0 [] [] 0 = billGo o l1 l2 s0 s1 s2 l3 (l0.drop (i + 1).toNat) (i + 1) rate caps (lines ++ [⟨i, v.1⟩]) (net + v.1)) := ⟨by rw [HGO.out, HD.out, billGo, if_neg k6, if_neg k5, hv, if_pos g]⟩
        rw [outC_ok g] at HU
        clear k6 k5 k14 hv g
        go_wp2_with (first | ((with_reducible refine gate_builtin (b := .append) (xs := #[.tmp 45, .tmp 49]) rfl ?_); at_builtin; refine Kd.R_append k48 (w0 := w) w.heap.size rfl (.tmp 45) (.tmp 49) 36 48 (.agg #[.int .i64 0, .int .i64 0]) 16 rfl Try.underlying36 hinfoL rfl (by decide) (by omega) vl lines (⟨i, v.1⟩ : S48) [.int .i64 i, .int .i64 v.1] (fun _ => True) (fun _ => False) rfl (by first | (go_simp; done) | (go_simp; rfl)) ?aP (fun _ hk => hk.elim) (fun _ _ => trivial) ?aO ?aB ?aS ?aL ?_; (case aP => exact k48_mkM _ _ _ (⟨i, v.1⟩ : S48)); (case aO => exact HRL2.out); (case aB => exact HBB.out); (case aS => exact HBB.out.size); (case aL => have := HLL.out; omega); intro vd w3 ho hb hg hat; obtain ⟨Ad, cd, rfl⟩ := Kd.R_slice ho; rw [List.length_append, List.length_singleton] at ho; have HRL3 := Aside0.mk ho; have HB3 := Aside0.mk hb; have KC3 := Aside0.mk (blk_grown KC2.out hg (Kd.R_ne HRL2.out KC2.out (by decide))); have KS3 := Aside0.mk (blk_grown KS2.out hg (Kd.R_ne HRL2.out KS2.out (by decide))); have KR3 := Aside0.mk (blk_grown KR2.out hg (Kd.R_ne HRL2.out KR2.out (by decide))); have KB3 := Aside0.mk (blk_grown KB2.out hg (Kd.R_ne HRL2.out KB2.out (by decide))); have HRC3 := Aside0.mk (Kd.R_over HRC2.out HRL2.out (by decide) hg); clear ho hb hg hat q0 q1 q2 q3; have q0 : w3.cell? ⟨w.heap.size + 1 + 1 + 1 + 1, 0, none⟩ = some (vl) := (blk_cell KB3.out 0).trans rfl; have q1 : w3.cell? ⟨w.heap.size + 1 + 1 + 1 + 1, 1, none⟩ = some (.int .i64 net) := (blk_cell KB3.out 1).trans rfl; have q2 : w3.cell? ⟨w.heap.size + 1 + 1 + 1 + 1, 2, none⟩ = some (.int .i64 0) := (blk_cell KB3.out 2).trans rfl; have q3 : w3.cell? ⟨w.heap.size + 1 + 1 + 1 + 1, 3, none⟩ = some (.int .i64 0) := (blk_cell KB3.out 3).trans rfl; have f0 := blk_frozen KB3.out 0; have f1 := blk_frozen KB3.out 1) | (go_at_call 64; refine HU.out.mono ?_; rintro e w2 ⟨rfl, hb2⟩; have HB2 := Aside0.mk hb2; clear hb2; have KC2 := Aside0.mk ((HB2.out.block _ (by simp; have := blk_lt HKC.out; omega)).trans ((Below.heap_alloc _ _ _ (blk_lt HKC.out)).trans HKC.out)); have KS2 := Aside0.mk ((HB2.out.block _ (by simp; have := blk_lt HKS.out; omega)).trans ((Below.heap_alloc _ _ _ (blk_lt HKS.out)).trans HKS.out)); have KR2 := Aside0.mk ((HB2.out.block _ (by simp; have := blk_lt HKR.out; omega)).trans ((Below.heap_alloc _ _ _ (blk_lt HKR.out)).trans HKR.out)); have KB2 := Aside0.mk ((HB2.out.block _ (by simp; have := blk_lt HKB.out; omega)).trans ((Below.heap_alloc _ _ _ (blk_lt HKB.out)).trans HKB.out)); have HRL2 := Aside0.mk (Kd.R_below (Kd.R_alloc HRL.out _) HB2.out); have HRC2 := Aside0.mk (Kd.R_below (Kd.R_alloc HRC.out _) HB2.out); have HBB := Aside0.mk (HBa.out.trans (HB2.out.mono HBa.out.size)); clear y0 y1 y2 z0 z1 z2 z3; have q0 : w2.cell? ⟨w.heap.size + 1 + 1 + 1 + 1, 0, none⟩ = some (vl) := (blk_cell KB2.out 0).trans rfl; have q1 : w2.cell? ⟨w.heap.size + 1 + 1 + 1 + 1, 1, none⟩ = some (.int .i64 net) := (blk_cell KB2.out 1).trans rfl; have q2 : w2.cell? ⟨w.heap.size + 1 + 1 + 1 + 1, 2, none⟩ = some (.int .i64 0) := (blk_cell KB2.out 2).trans rfl; have q3 : w2.cell? ⟨w.heap.size + 1 + 1 + 1 + 1, 3, none⟩ = some (.int .i64 0) := (blk_cell KB2.out 3).trans rfl))
        go_roundw
        case rel => exact ⟨i + 1, rate, net + v.1, caps, _, _, lines ++ [⟨i, v.1⟩], rfl, rfl, rfl, by omega, by omega, by omega, by omega, ⟨by have := HLL.out; rw [List.length_append, List.length_singleton]; omega⟩, ⟨(HB3.out.setCell (p := ⟨w.heap.size + 1 + 1 + 1 + 1, 0, none⟩) (by simp; omega) _).setCell (p := ⟨w.heap.size + 1 + 1 + 1 + 1, 1, none⟩) (by simp; omega) _⟩,
          ⟨Kd.R_set (Kd.R_set HRC3.out KB3.out (by decide) 0 _) (blk_put KB3.out 0 _ rfl) (by decide) 1 _⟩, ⟨Kd.R_set (Kd.R_set HRL3.out KB3.out (by decide) 0 _) (blk_put KB3.out 0 _ rfl) (by decide) 1 _⟩, ⟨blk_far (blk_far KC3.out (by simp) _) (by simp) _⟩, ⟨blk_far (blk_far KS3.out (by simp) _) (by simp) _⟩, ⟨blk_far (blk_far KR3.out (by simp) _) (by simp) _⟩, ⟨blk_put (blk_put KB3.out 0 _ rfl) 1 _ rfl⟩, HG2⟩
        case measure => simp [intOf]; omega
      · have HG2 : Aside0 (billGo o l1 l2 s0 s1 s2 l3 l0 0 0 [] [] 0 = ⟨v.2, 0, [], [], 0⟩) := ⟨by rw [HGO.out, HD.out, billGo, if_neg k6, if_neg k5, hv, if_neg g]⟩
        rw [outC_bad g] at HU
        have HGG := Aside0.mk g
        clear k6 k5 k14 hv g
        go_wp2_with (go_at_call 64; refine HU.out.mono ?_; rintro e w2 ⟨rfl, hb2⟩; have HB2 := Aside0.mk hb2; clear hb2; have KC2 := Aside0.mk ((HB2.out.block _ (by simp; have := blk_lt HKC.out; omega)).trans ((Below.heap_alloc _ _ _ (blk_lt HKC.out)).trans HKC.out)); have KS2 := Aside0.mk ((HB2.out.block _ (by simp; have := blk_lt HKS.out; omega)).trans ((Below.heap_alloc _ _ _ (blk_lt HKS.out)).trans HKS.out)); have KR2 := Aside0.mk ((HB2.out.block _ (by simp; have := blk_lt HKR.out; omega)).trans ((Below.heap_alloc _ _ _ (blk_lt HKR.out)).trans HKR.out)); have KB2 := Aside0.mk ((HB2.out.block _ (by simp; have := blk_lt HKB.out; omega)).trans ((Below.heap_alloc _ _ _ (blk_lt HKB.out)).trans HKB.out)); have HRL2 := Aside0.mk (Kd.R_below (Kd.R_alloc HRL.out _) HB2.out); have HRC2 := Aside0.mk (Kd.R_below (Kd.R_alloc HRC.out _) HB2.out); have HBB := Aside0.mk (HBa.out.trans (HB2.out.mono HBa.out.size)); clear y0 y1 y2 z0 z1 z2 z3; have q0 : w2.cell? ⟨w.heap.size + 1 + 1 + 1 + 1, 0, none⟩ = some (vl) := (blk_cell KB2.out 0).trans rfl; have q1 : w2.cell? ⟨w.heap.size + 1 + 1 + 1 + 1, 1, none⟩ = some (.int .i64 net) := (blk_cell KB2.out 1).trans rfl; have q2 : w2.cell? ⟨w.heap.size + 1 + 1 + 1 + 1, 2, none⟩ = some (.int .i64 0) := (blk_cell KB2.out 2).trans rfl; have q3 : w2.cell? ⟨w.heap.size + 1 + 1 + 1 + 1, 3, none⟩ = some (.int .i64 0) := (blk_cell KB2.out 3).trans rfl)
        have hpost : BillPost w (billO o l1 l2 s0 s1 s2 l3 l0) (.panicked (errP v.2)) w2 := ⟨by rw [show (billO o l1 l2 s0 s1 s2 l3 l0) = ⟨v.2, [], 0, 0, 0⟩ by unfold billO billEnd; rw [HG2.out, if_neg HGG.out], if_neg HGG.out], HBB.out⟩
        first | exact hpost | exact ⟨rfl, hpost⟩
    · have hend : billGo o l1 l2 s0 s1 s2 l3 l0 0 0 [] [] 0 = ⟨0, rate, caps, lines, net⟩ := by rw [HGO.out, List.drop_eq_nil_of_le (by omega)]; rfl
      have HE : Aside0 (billO o l1 l2 s0 s1 s2 l3 l0 = billEnd ⟨0, rate, caps, lines, net⟩) := ⟨congrArg billEnd hend⟩
      clear hend HGO
      obtain ⟨Ac, cc, rfl, hcc, hcr⟩ := Kd.R_reads HRC.out
      obtain ⟨Al, cl, rfl, _, _⟩ := Kd.R_reads HRL.out
      have HCR := Aside0.mk (And.intro hcc hcr)
      clear hcc hcr
      by_cases hcap : caps = []
      · obtain ⟨m, hm⟩ : ∃ m, m = net := ⟨_, rfl⟩
        have HF : Aside0 (billO o l1 l2 s0 s1 s2 l3 l0 = if 1000000000 < m then ⟨3, [], 0, 0, 0⟩ else if (money_Tax.v m rate).2 = 0 then (if 1000000000 < m + (money_Tax.v m rate).1 then ⟨3, [], 0, 0, 0⟩ else ⟨0, lines, m, (money_Tax.v m rate).1, m + (money_Tax.v m rate).1⟩) else ⟨(money_Tax.v m rate).2, [], 0, 0, 0⟩) := ⟨by
          rw [HE.out, billEnd, if_pos rfl]; dsimp only; rw [if_pos hcap, hm]⟩
        have d1 : decide ((0 : Int) < (caps.length : Int)) = false := decide_eq_false (by rw [hcap]; simp)
        have d2 : decide (0 < caps.length) = false := decide_eq_false (by rw [hcap]; simp)
        subst hm
        have KBw := HKB
        have KRw := HKR
        have HRLw := HRL
        have HBw := HB
        have hm1 : m ≤ 12000000000 := by omega
        clear HE hcap
        have q0 : wr.cell? ⟨w.heap.size + 1 + 1 + 1 + 1, 0, none⟩ = some ((.slice Al lines.length cl)) := (blk_cell KBw.out 0).trans rfl
        have q1 : wr.cell? ⟨w.heap.size + 1 + 1 + 1 + 1, 1, none⟩ = some (.int .i64 m) := (blk_cell KBw.out 1).trans rfl
        have q2 : wr.cell? ⟨w.heap.size + 1 + 1 + 1 + 1, 2, none⟩ = some (.int .i64 0) := (blk_cell KBw.out 2).trans rfl
        have q3 : wr.cell? ⟨w.heap.size + 1 + 1 + 1 + 1, 3, none⟩ = some (.int .i64 0) := (blk_cell KBw.out 3).trans rfl
        have f0 : wr.frozen? ⟨w.heap.size + 1 + 1 + 1 + 1, 0, none⟩ = false := blk_frozen KBw.out 0
        have f1 : wr.frozen? ⟨w.heap.size + 1 + 1 + 1 + 1, 1, none⟩ = false := blk_frozen KBw.out 1
        have f2 : wr.frozen? ⟨w.heap.size + 1 + 1 + 1 + 1, 2, none⟩ = false := blk_frozen KBw.out 2
        have f3 : wr.frozen? ⟨w.heap.size + 1 + 1 + 1 + 1, 3, none⟩ = false := blk_frozen KBw.out 3
        by_cases ov : 1000000000 < m
        · have HO : Aside0 (billO o l1 l2 s0 s1 s2 l3 l0 = ⟨3, [], 0, 0, 0⟩) := ⟨by rw [HF.out, if_pos ov]⟩
          go_wp2_with (go_at_call 97; refine (must_over _ _ ov).mono ?_; rintro e w8 ⟨rfl, rfl⟩)
          first | exact post_bad 3 HO.out (by decide) rfl HBw.out | exact ⟨rfl, post_bad 3 HO.out (by decide) rfl HBw.out⟩
        · obtain ⟨n, c, htx⟩ : ∃ n c, money_Tax.v m rate = (n, c) := ⟨_, _, rfl⟩
          have HTX : Aside0 (money_Tax.f m rate = some (n, c)) := ⟨congrArg some htx⟩
          have HTX0 := Aside0.mk htx
          have hnb := tax_bd m rate
          rw [htx] at hnb
          obtain ⟨hn2, hn3⟩ := hnb
          dsimp only at hn2 hn3
          have hmle : m ≤ 1000000000 := by omega
          have HF2 := Aside0.mk HF.out
          rw [if_neg ov, htx] at HF2
          dsimp only at HF2
          clear htx HF ov
          by_cases g : c = 0
          · subst g
            have hm0 : 0 ≤ m := tax_arg HTX0.out
            rw [if_pos rfl] at HF2
            by_cases ov2 : 1000000000 < m + n
            · rw [if_pos ov2] at HF2
              go_wp2_with (first | (go_at_call 88; refine (money_Tax.calls _ _ _ _ _ (by exact HTX.out)).mono ?_; rintro e w5 ⟨rfl, hb5⟩; have HB5 := Aside0.mk hb5; have KB5 := Aside0.mk ((hb5.block _ (by simp; exact blk_lt KBw.out)).trans (blk_put KBw.out 1 (.int .i64 m) rfl)); have KR5 := Aside0.mk ((hb5.block _ (by simp; exact blk_lt KRw.out)).trans (blk_far KRw.out (by simp) (.int .i64 m))); have HRL5 := Aside0.mk (Kd.R_below (Kd.R_set HRLw.out KBw.out (by decide) 1 (.int .i64 m)) hb5); have HBB5 := Aside0.mk ((HBw.out.setCell (p := ⟨w.heap.size + 1 + 1 + 1 + 1, 1, none⟩) (by simp; omega) (.int .i64 m)).trans (hb5.mono (by simp; exact HBw.out.size))); clear hb5 q0 q1 q2 q3 f0 f1 f2 f3; have q0 : w5.cell? ⟨w.heap.size + 1 + 1 + 1 + 1, 0, none⟩ = some ((.slice Al lines.length cl)) := (blk_cell KB5.out 0).trans rfl; have q1 : w5.cell? ⟨w.heap.size + 1 + 1 + 1 + 1, 1, none⟩ = some (.int .i64 m) := (blk_cell KB5.out 1).trans rfl; have q2 : w5.cell? ⟨w.heap.size + 1 + 1 + 1 + 1, 2, none⟩ = some (.int .i64 0) := (blk_cell KB5.out 2).trans rfl; have q3 : w5.cell? ⟨w.heap.size + 1 + 1 + 1 + 1, 3, none⟩ = some (.int .i64 0) := (blk_cell KB5.out 3).trans rfl; have f0 : w5.frozen? ⟨w.heap.size + 1 + 1 + 1 + 1, 0, none⟩ = false := blk_frozen KB5.out 0; have f1 : w5.frozen? ⟨w.heap.size + 1 + 1 + 1 + 1, 1, none⟩ = false := blk_frozen KB5.out 1; have f2 : w5.frozen? ⟨w.heap.size + 1 + 1 + 1 + 1, 2, none⟩ = false := blk_frozen KB5.out 2; have f3 : w5.frozen? ⟨w.heap.size + 1 + 1 + 1 + 1, 3, none⟩ = false := blk_frozen KB5.out 3; have r0 : w5.cell? ⟨w.heap.size + 1 + 1 + 1, 0, none⟩ = some (.slice none 0 0) := (blk_cell KR5.out 0).trans rfl; have r1 : w5.cell? ⟨w.heap.size + 1 + 1 + 1, 1, none⟩ = some (.int .i64 0) := (blk_cell KR5.out 1).trans rfl; have r2 : w5.cell? ⟨w.heap.size + 1 + 1 + 1, 2, none⟩ = some (.int .i64 0) := (blk_cell KR5.out 2).trans rfl; have r3 : w5.cell? ⟨w.heap.size + 1 + 1 + 1, 3, none⟩ = some (.int .i64 0) := (blk_cell KR5.out 3).trans rfl; have g0 : w5.frozen? ⟨w.heap.size + 1 + 1 + 1, 0, none⟩ = false := blk_frozen KR5.out 0; have g1 : w5.frozen? ⟨w.heap.size + 1 + 1 + 1, 1, none⟩ = false := blk_frozen KR5.out 1; have g2 : w5.frozen? ⟨w.heap.size + 1 + 1 + 1, 2, none⟩ = false := blk_frozen KR5.out 2; have g3 : w5.frozen? ⟨w.heap.size + 1 + 1 + 1, 3, none⟩ = false := blk_frozen KR5.out 3) | (go_at_call 97; first | (refine (must_ok _ _ (by first | exact hmle | exact hn3)).mono ?_; rintro e w8 ⟨rfl, rfl⟩) | (refine (must_over _ _ (by exact ov2)).mono ?_; rintro e w8 ⟨rfl, rfl⟩)))
              first | exact post_bad 3 HF2.out (by decide) rfl (HBB5.out.setCell (p := ⟨w.heap.size + 1 + 1 + 1 + 1, 2, none⟩) (by simp; omega) _) | exact ⟨rfl, post_bad 3 HF2.out (by decide) rfl (HBB5.out.setCell (p := ⟨w.heap.size + 1 + 1 + 1 + 1, 2, none⟩) (by simp; omega) _)⟩
            · rw [if_neg ov2] at HF2
              have hmn : m + n ≤ 1000000000 := by omega
              clear ov2
              go_wp2_with (first | (go_at_call 88; refine (money_Tax.calls _ _ _ _ _ (by exact HTX.out)).mono ?_; rintro e w5 ⟨rfl, hb5⟩; have HB5 := Aside0.mk hb5; have KB5 := Aside0.mk ((hb5.block _ (by simp; exact blk_lt KBw.out)).trans (blk_put KBw.out 1 (.int .i64 m) rfl)); have KR5 := Aside0.mk ((hb5.block _ (by simp; exact blk_lt KRw.out)).trans (blk_far KRw.out (by simp) (.int .i64 m))); have HRL5 := Aside0.mk (Kd.R_below (Kd.R_set HRLw.out KBw.out (by decide) 1 (.int .i64 m)) hb5); have HBB5 := Aside0.mk ((HBw.out.setCell (p := ⟨w.heap.size + 1 + 1 + 1 + 1, 1, none⟩) (by simp; omega) (.int .i64 m)).trans (hb5.mono (by simp; exact HBw.out.size))); clear hb5 q0 q1 q2 q3 f0 f1 f2 f3; have q0 : w5.cell? ⟨w.heap.size + 1 + 1 + 1 + 1, 0, none⟩ = some ((.slice Al lines.length cl)) := (blk_cell KB5.out 0).trans rfl; have q1 : w5.cell? ⟨w.heap.size + 1 + 1 + 1 + 1, 1, none⟩ = some (.int .i64 m) := (blk_cell KB5.out 1).trans rfl; have q2 : w5.cell? ⟨w.heap.size + 1 + 1 + 1 + 1, 2, none⟩ = some (.int .i64 0) := (blk_cell KB5.out 2).trans rfl; have q3 : w5.cell? ⟨w.heap.size + 1 + 1 + 1 + 1, 3, none⟩ = some (.int .i64 0) := (blk_cell KB5.out 3).trans rfl; have f0 : w5.frozen? ⟨w.heap.size + 1 + 1 + 1 + 1, 0, none⟩ = false := blk_frozen KB5.out 0; have f1 : w5.frozen? ⟨w.heap.size + 1 + 1 + 1 + 1, 1, none⟩ = false := blk_frozen KB5.out 1; have f2 : w5.frozen? ⟨w.heap.size + 1 + 1 + 1 + 1, 2, none⟩ = false := blk_frozen KB5.out 2; have f3 : w5.frozen? ⟨w.heap.size + 1 + 1 + 1 + 1, 3, none⟩ = false := blk_frozen KB5.out 3; have r0 : w5.cell? ⟨w.heap.size + 1 + 1 + 1, 0, none⟩ = some (.slice none 0 0) := (blk_cell KR5.out 0).trans rfl; have r1 : w5.cell? ⟨w.heap.size + 1 + 1 + 1, 1, none⟩ = some (.int .i64 0) := (blk_cell KR5.out 1).trans rfl; have r2 : w5.cell? ⟨w.heap.size + 1 + 1 + 1, 2, none⟩ = some (.int .i64 0) := (blk_cell KR5.out 2).trans rfl; have r3 : w5.cell? ⟨w.heap.size + 1 + 1 + 1, 3, none⟩ = some (.int .i64 0) := (blk_cell KR5.out 3).trans rfl; have g0 : w5.frozen? ⟨w.heap.size + 1 + 1 + 1, 0, none⟩ = false := blk_frozen KR5.out 0; have g1 : w5.frozen? ⟨w.heap.size + 1 + 1 + 1, 1, none⟩ = false := blk_frozen KR5.out 1; have g2 : w5.frozen? ⟨w.heap.size + 1 + 1 + 1, 2, none⟩ = false := blk_frozen KR5.out 2; have g3 : w5.frozen? ⟨w.heap.size + 1 + 1 + 1, 3, none⟩ = false := blk_frozen KR5.out 3) | (go_at_call 97; refine (must_ok _ _ (by first | exact hmle | exact hn3 | exact hmn)).mono ?_; rintro e w8 ⟨rfl, rfl⟩))
              have b2 := blk_put KB5.out 2 (.int .i64 n) rfl
              have c1 := blk_far (p := ⟨w.heap.size + 1 + 1 + 1 + 1, 3, none⟩) (blk_far (p := ⟨w.heap.size + 1 + 1 + 1 + 1, 2, none⟩) KR5.out (by simp) (.int .i64 n)) (by simp) (.int .i64 (m + n))
              have c2 := blk_put c1 0 (.slice Al lines.length cl) rfl
              have c3 := blk_put c2 1 (.int .i64 m) rfl
              have c4 := blk_put c3 2 (.int .i64 n) rfl
              have c5 := blk_put c4 3 (.int .i64 (m + n)) rfl
              have R6 := Kd.R_set (Kd.R_set (Kd.R_set (Kd.R_set (Kd.R_set (Kd.R_set HRL5.out KB5.out (by decide) 2 (.int .i64 n)) b2 (by decide) 3 (.int .i64 (m + n))) c1 (by decide) 0 (.slice Al lines.length cl)) c2 (by decide) 1 (.int .i64 m)) c3 (by decide) 2 (.int .i64 n)) c4 (by decide) 3 (.int .i64 (m + n))
              have B6 := (((((HBB5.out.setCell (p := ⟨w.heap.size + 1 + 1 + 1 + 1, 2, none⟩) (by simp; omega) (.int .i64 n)).setCell (p := ⟨w.heap.size + 1 + 1 + 1 + 1, 3, none⟩) (by simp; omega) (.int .i64 (m + n))).setCell (p := ⟨w.heap.size + 1 + 1 + 1, 0, none⟩) (by simp; omega) (.slice Al lines.length cl)).setCell (p := ⟨w.heap.size + 1 + 1 + 1, 1, none⟩) (by simp; omega) (.int .i64 m)).setCell (p := ⟨w.heap.size + 1 + 1 + 1, 2, none⟩) (by simp; omega) (.int .i64 n)).setCell (p := ⟨w.heap.size + 1 + 1 + 1, 3, none⟩) (by simp; omega) (.int .i64 (m + n))
              have e0 := (blk_cell c5 0).trans rfl
              have e1 := (blk_cell c5 1).trans rfl
              have e2 := (blk_cell c5 2).trans rfl
              have e3 := (blk_cell c5 3).trans rfl
              clear q0 q1 q2 q3 f0 f1 f2 f3 r0 r1 r2 r3 g0 g1 g2 g3 b2 c1 c2 c3 c4 c5
              refine bodyPost_ret (v := .agg #[.slice Al lines.length cl, .int .i64 m, .int .i64 n, .int .i64 (m + n)]) ?_ rfl (post_ok lines m n (m + n) HF2.out rfl R6 B6)
              generalize (((((w8.setCell ⟨w.heap.size + 1 + 1 + 1 + 1, 2, none⟩ (.int .i64 n)).setCell ⟨w.heap.size + 1 + 1 + 1 + 1, 3, none⟩ (.int .i64 (m + n))).setCell ⟨w.heap.size + 1 + 1 + 1, 0, none⟩ (.slice Al lines.length cl)).setCell ⟨w.heap.size + 1 + 1 + 1, 1, none⟩ (.int .i64 m)).setCell ⟨w.heap.size + 1 + 1 + 1, 2, none⟩ (.int .i64 n)).setCell ⟨w.heap.size + 1 + 1 + 1, 3, none⟩ (.int .i64 (m + n)) = Wf at e0 e1 e2 e3 ⊢
              simp [results, Try.results61, go_sem, e0, e1, e2, e3]
          · have HG := Aside0.mk g
            rw [if_neg g] at HF2
            clear g
            go_wp2_with (first | (go_at_call 88; refine (money_Tax.calls _ _ _ _ _ (by exact HTX.out)).mono ?_; rintro e w5 ⟨rfl, hb5⟩; have HB5 := Aside0.mk hb5; have KB5 := Aside0.mk ((hb5.block _ (by simp; exact blk_lt KBw.out)).trans (blk_put KBw.out 1 (.int .i64 m) rfl)); have KR5 := Aside0.mk ((hb5.block _ (by simp; exact blk_lt KRw.out)).trans (blk_far KRw.out (by simp) (.int .i64 m))); have HRL5 := Aside0.mk (Kd.R_below (Kd.R_set HRLw.out KBw.out (by decide) 1 (.int .i64 m)) hb5); have HBB5 := Aside0.mk ((HBw.out.setCell (p := ⟨w.heap.size + 1 + 1 + 1 + 1, 1, none⟩) (by simp; omega) (.int .i64 m)).trans (hb5.mono (by simp; exact HBw.out.size))); clear hb5 q0 q1 q2 q3 f0 f1 f2 f3; have q0 : w5.cell? ⟨w.heap.size + 1 + 1 + 1 + 1, 0, none⟩ = some ((.slice Al lines.length cl)) := (blk_cell KB5.out 0).trans rfl; have q1 : w5.cell? ⟨w.heap.size + 1 + 1 + 1 + 1, 1, none⟩ = some (.int .i64 m) := (blk_cell KB5.out 1).trans rfl; have q2 : w5.cell? ⟨w.heap.size + 1 + 1 + 1 + 1, 2, none⟩ = some (.int .i64 0) := (blk_cell KB5.out 2).trans rfl; have q3 : w5.cell? ⟨w.heap.size + 1 + 1 + 1 + 1, 3, none⟩ = some (.int .i64 0) := (blk_cell KB5.out 3).trans rfl; have f0 : w5.frozen? ⟨w.heap.size + 1 + 1 + 1 + 1, 0, none⟩ = false := blk_frozen KB5.out 0; have f1 : w5.frozen? ⟨w.heap.size + 1 + 1 + 1 + 1, 1, none⟩ = false := blk_frozen KB5.out 1; have f2 : w5.frozen? ⟨w.heap.size + 1 + 1 + 1 + 1, 2, none⟩ = false := blk_frozen KB5.out 2; have f3 : w5.frozen? ⟨w.heap.size + 1 + 1 + 1 + 1, 3, none⟩ = false := blk_frozen KB5.out 3; have r0 : w5.cell? ⟨w.heap.size + 1 + 1 + 1, 0, none⟩ = some (.slice none 0 0) := (blk_cell KR5.out 0).trans rfl; have r1 : w5.cell? ⟨w.heap.size + 1 + 1 + 1, 1, none⟩ = some (.int .i64 0) := (blk_cell KR5.out 1).trans rfl; have r2 : w5.cell? ⟨w.heap.size + 1 + 1 + 1, 2, none⟩ = some (.int .i64 0) := (blk_cell KR5.out 2).trans rfl; have r3 : w5.cell? ⟨w.heap.size + 1 + 1 + 1, 3, none⟩ = some (.int .i64 0) := (blk_cell KR5.out 3).trans rfl; have g0 : w5.frozen? ⟨w.heap.size + 1 + 1 + 1, 0, none⟩ = false := blk_frozen KR5.out 0; have g1 : w5.frozen? ⟨w.heap.size + 1 + 1 + 1, 1, none⟩ = false := blk_frozen KR5.out 1; have g2 : w5.frozen? ⟨w.heap.size + 1 + 1 + 1, 2, none⟩ = false := blk_frozen KR5.out 2; have g3 : w5.frozen? ⟨w.heap.size + 1 + 1 + 1, 3, none⟩ = false := blk_frozen KR5.out 3) | (go_at_call 97; first | (refine (must_bad _ _ _ (by exact HG.out)).mono ?_; rintro e w8 ⟨rfl, rfl⟩) | (refine (must_ok _ _ (by exact hmle)).mono ?_; rintro e w8 ⟨rfl, rfl⟩)))
            first | exact post_bad c HF2.out HG.out rfl HBB5.out | exact ⟨rfl, post_bad c HF2.out HG.out rfl HBB5.out⟩
      · have d1 : decide ((0 : Int) < (caps.length : Int)) = true := decide_eq_true (by have := List.length_pos_iff.2 hcap; omega)
        have d2 : decide (0 < caps.length) = true := decide_eq_true (List.length_pos_iff.2 hcap)
        have HM : Aside0 (∀ W, Below wr.heap.size wr W → _) := ⟨fun W hW => slices_Min_int_int.calls (caps.length + 1) Ac cc caps _ W (Kd.C_below HCR.out.2 hW) HCR.out.1 (capMin_f (caps.length + 1) caps (by have := HLL.out; omega) (by omega) hcap)⟩
        have HCAP := Aside0.mk hcap
        clear hcap
        go_upto_region 18 with (fail)
        have q1 : wr.cell? ⟨w.heap.size + 1 + 1 + 1 + 1, 1, none⟩ = some (.int .i64 net) := (blk_cell HKB.out 1).trans rfl
        have f1 : wr.frozen? ⟨w.heap.size + 1 + 1 + 1 + 1, 1, none⟩ = false := blk_frozen HKB.out 1
        have hfn : ∀ f, Fence.wide.fn f := fun _ => trivial
        refine (wpIn_wide (n := 9)).1 ?_
        refine wpIn_region_any (by kernel_rfl) ?_
        change wpAnyIn _ _ _ _ _ _ _ _ _ (World.drew _)
        refine wpAnyIn_take (i := 0) (v := ?_) rfl rfl (by kernel_rfl) (by kernel_rfl) (by kernel_rfl) (fun _ _ _ h => h) ⟨Or.inl ⟨by kernel_rfl, ?_⟩, fun _ => rfl⟩ ?_
        case refine_2 => (intro w; go_simp <;> with_reducible rfl)
        try simp only [Act.put, List.setIfInBounds_toArray, List.set_cons_zero, List.set_cons_succ, List.getElem_toArray, List.getElem_cons_zero, List.getElem_cons_succ]
        refine wpAnyIn_take (i := 2) (v := ?_) rfl rfl (by kernel_rfl) (by kernel_rfl) (by kernel_rfl) (fun _ _ _ h => h) ⟨Or.inl ⟨by kernel_rfl, ?_⟩, fun _ => rfl⟩ ?_
        case refine_2 => (intro w; go_simp <;> with_reducible rfl)
        try simp only [Act.put, List.setIfInBounds_toArray, List.set_cons_zero, List.set_cons_succ, List.getElem_toArray, List.getElem_cons_zero, List.getElem_cons_succ]
        refine wpAnyIn_ready (rs := [1, 3]) (by kernel_rfl) (by simp) ?_
        refine (AllReadyIn.cons rfl (fun K hK => ?_) (AllReadyIn.cons rfl (fun K hK => ?_) AllReadyIn.nil))
        · go_simp
          refine hK _ _ ?_
          clear hK K
          refine wpAnyIn_ready (rs := [3]) (by kernel_rfl) (by simp) ?_
          refine (AllReadyIn.cons rfl (fun K hK => ?_) AllReadyIn.nil)
          go_simp
          gi_wp2_with (gi_at_call 96; refine (callsIn_wide.2 (HM.out _ (by repeat (first | exact Below.refl _ _ | apply below_drew1)))).mono ?_; rintro e w7 ⟨rfl, hb7⟩; have HB7 := Aside0.mk (hb7 : Below wr.heap.size wr.drew w7); have q1' : w7.cell? ⟨w.heap.size + 1 + 1 + 1 + 1, 1, none⟩ = some (.int .i64 net) := (hb7.cell (p := ⟨w.heap.size + 1 + 1 + 1 + 1, 1, none⟩) (blk_lt HKB.out)).trans q1; have f1' : w7.frozen? ⟨w.heap.size + 1 + 1 + 1 + 1, 1, none⟩ = false := (hb7.frozen (p := ⟨w.heap.size + 1 + 1 + 1 + 1, 1, none⟩) (blk_lt HKB.out)).trans f1; clear hb7)
          refine wpAnyIn_ready (rs := [4]) (by kernel_rfl) (by simp) ?_
          refine (AllReadyIn.cons rfl (fun K hK => ?_) AllReadyIn.nil)
          go_simp
          refine hK _ _ ?_
          clear hK K
          refine wpAnyIn_ready (rs := [5]) (by kernel_rfl) (by simp) ?_
          refine (AllReadyIn.cons rfl (fun K hK => ?_) AllReadyIn.nil)
          go_simp
          refine hK _ _ ?_
          clear hK K
          refine wpAnyIn_ready (rs := [6]) (by kernel_rfl) (by simp) ?_
          refine (AllReadyIn.cons rfl (fun K hK => ?_) AllReadyIn.nil)
          go_simp
          refine hK _ _ ?_
          clear hK K
          refine wpAnyIn_done (by kernel_rfl) ?_ _
          rw [show (if capMin caps < net then capMin caps else net) = mn net (capMin caps) from rfl]
          have KB7 := (HB7.out.block _ (by exact blk_lt HKB.out)).trans HKB.out
          have KR7 := (HB7.out.block _ (by exact blk_lt HKR.out)).trans HKR.out
          obtain ⟨m, hm⟩ : ∃ m, mn net (capMin caps) = m := ⟨_, rfl⟩
          have HF : Aside0 (billO o l1 l2 s0 s1 s2 l3 l0 = if 1000000000 < m then ⟨3, [], 0, 0, 0⟩ else if (money_Tax.v m rate).2 = 0 then (if 1000000000 < m + (money_Tax.v m rate).1 then ⟨3, [], 0, 0, 0⟩ else ⟨0, lines, m, (money_Tax.v m rate).1, m + (money_Tax.v m rate).1⟩) else ⟨(money_Tax.v m rate).2, [], 0, 0, 0⟩) := ⟨by
            rw [HE.out, billEnd, if_pos rfl]; dsimp only; rw [if_neg HCAP.out, hm]⟩
          have hm1 : m ≤ 12000000000 := by rw [← hm]; unfold mn; split <;> omega
          rw [hm]
          have KBw := Aside0.mk (blk_put KB7 1 (.int .i64 m) rfl)
          have KRw := Aside0.mk (blk_far (p := ⟨w.heap.size + 1 + 1 + 1 + 1, 1, none⟩) KR7 (by simp) (.int .i64 m))
          have HRLw := Aside0.mk (Kd.R_set (Kd.R_below (Kd.R_drew HRL.out) HB7.out) KB7 (by decide) 1 (.int .i64 m))
          have HBw := Aside0.mk ((HB.out.drew.trans (HB7.out.mono HB.out.size)).setCell (p := ⟨w.heap.size + 1 + 1 + 1 + 1, 1, none⟩) (by simp; omega) (.int .i64 m))
          generalize w7.setCell ⟨w.heap.size + 1 + 1 + 1 + 1, 1, none⟩ (.int .i64 m) = W at KBw KRw HRLw HBw ⊢
          clear HE hm KB7 KR7 HB7 q1 f1 q1' f1' HM HCAP
          have q0 : W.cell? ⟨w.heap.size + 1 + 1 + 1 + 1, 0, none⟩ = some ((.slice Al lines.length cl)) := (blk_cell KBw.out 0).trans rfl
          have q1 : W.cell? ⟨w.heap.size + 1 + 1 + 1 + 1, 1, none⟩ = some (.int .i64 m) := (blk_cell KBw.out 1).trans rfl
          have q2 : W.cell? ⟨w.heap.size + 1 + 1 + 1 + 1, 2, none⟩ = some (.int .i64 0) := (blk_cell KBw.out 2).trans rfl
          have q3 : W.cell? ⟨w.heap.size + 1 + 1 + 1 + 1, 3, none⟩ = some (.int .i64 0) := (blk_cell KBw.out 3).trans rfl
          have f0 : W.frozen? ⟨w.heap.size + 1 + 1 + 1 + 1, 0, none⟩ = false := blk_frozen KBw.out 0
          have f1 : W.frozen? ⟨w.heap.size + 1 + 1 + 1 + 1, 1, none⟩ = false := blk_frozen KBw.out 1
          have f2 : W.frozen? ⟨w.heap.size + 1 + 1 + 1 + 1, 2, none⟩ = false := blk_frozen KBw.out 2
          have f3 : W.frozen? ⟨w.heap.size + 1 + 1 + 1 + 1, 3, none⟩ = false := blk_frozen KBw.out 3
          by_cases ov : 1000000000 < m
          · have HO : Aside0 (billO o l1 l2 s0 s1 s2 l3 l0 = ⟨3, [], 0, 0, 0⟩) := ⟨by rw [HF.out, if_pos ov]⟩
            go_wp2_with (go_at_call 97; refine (must_over _ _ ov).mono ?_; rintro e w8 ⟨rfl, rfl⟩)
            first | exact post_bad 3 HO.out (by decide) rfl HBw.out | exact ⟨rfl, post_bad 3 HO.out (by decide) rfl HBw.out⟩
          · obtain ⟨n, c, htx⟩ : ∃ n c, money_Tax.v m rate = (n, c) := ⟨_, _, rfl⟩
            have HTX : Aside0 (money_Tax.f m rate = some (n, c)) := ⟨congrArg some htx⟩
            have HTX0 := Aside0.mk htx
            have hnb := tax_bd m rate
            rw [htx] at hnb
            obtain ⟨hn2, hn3⟩ := hnb
            dsimp only at hn2 hn3
            have hmle : m ≤ 1000000000 := by omega
            have HF2 := Aside0.mk HF.out
            rw [if_neg ov, htx] at HF2
            dsimp only at HF2
            clear htx HF ov
            by_cases g : c = 0
            · subst g
              have hm0 : 0 ≤ m := tax_arg HTX0.out
              rw [if_pos rfl] at HF2
              by_cases ov2 : 1000000000 < m + n
              · rw [if_pos ov2] at HF2
                go_wp2_with (first | (go_at_call 88; refine (money_Tax.calls _ _ _ _ _ (by exact HTX.out)).mono ?_; rintro e w5 ⟨rfl, hb5⟩; have HB5 := Aside0.mk hb5; have KB5 := Aside0.mk ((hb5.block _ (by simp; exact blk_lt KBw.out)).trans (blk_put KBw.out 1 (.int .i64 m) rfl)); have KR5 := Aside0.mk ((hb5.block _ (by simp; exact blk_lt KRw.out)).trans (blk_far KRw.out (by simp) (.int .i64 m))); have HRL5 := Aside0.mk (Kd.R_below (Kd.R_set HRLw.out KBw.out (by decide) 1 (.int .i64 m)) hb5); have HBB5 := Aside0.mk ((HBw.out.setCell (p := ⟨w.heap.size + 1 + 1 + 1 + 1, 1, none⟩) (by simp; omega) (.int .i64 m)).trans (hb5.mono (by simp; exact HBw.out.size))); clear hb5 q0 q1 q2 q3 f0 f1 f2 f3; have q0 : w5.cell? ⟨w.heap.size + 1 + 1 + 1 + 1, 0, none⟩ = some ((.slice Al lines.length cl)) := (blk_cell KB5.out 0).trans rfl; have q1 : w5.cell? ⟨w.heap.size + 1 + 1 + 1 + 1, 1, none⟩ = some (.int .i64 m) := (blk_cell KB5.out 1).trans rfl; have q2 : w5.cell? ⟨w.heap.size + 1 + 1 + 1 + 1, 2, none⟩ = some (.int .i64 0) := (blk_cell KB5.out 2).trans rfl; have q3 : w5.cell? ⟨w.heap.size + 1 + 1 + 1 + 1, 3, none⟩ = some (.int .i64 0) := (blk_cell KB5.out 3).trans rfl; have f0 : w5.frozen? ⟨w.heap.size + 1 + 1 + 1 + 1, 0, none⟩ = false := blk_frozen KB5.out 0; have f1 : w5.frozen? ⟨w.heap.size + 1 + 1 + 1 + 1, 1, none⟩ = false := blk_frozen KB5.out 1; have f2 : w5.frozen? ⟨w.heap.size + 1 + 1 + 1 + 1, 2, none⟩ = false := blk_frozen KB5.out 2; have f3 : w5.frozen? ⟨w.heap.size + 1 + 1 + 1 + 1, 3, none⟩ = false := blk_frozen KB5.out 3; have r0 : w5.cell? ⟨w.heap.size + 1 + 1 + 1, 0, none⟩ = some (.slice none 0 0) := (blk_cell KR5.out 0).trans rfl; have r1 : w5.cell? ⟨w.heap.size + 1 + 1 + 1, 1, none⟩ = some (.int .i64 0) := (blk_cell KR5.out 1).trans rfl; have r2 : w5.cell? ⟨w.heap.size + 1 + 1 + 1, 2, none⟩ = some (.int .i64 0) := (blk_cell KR5.out 2).trans rfl; have r3 : w5.cell? ⟨w.heap.size + 1 + 1 + 1, 3, none⟩ = some (.int .i64 0) := (blk_cell KR5.out 3).trans rfl; have g0 : w5.frozen? ⟨w.heap.size + 1 + 1 + 1, 0, none⟩ = false := blk_frozen KR5.out 0; have g1 : w5.frozen? ⟨w.heap.size + 1 + 1 + 1, 1, none⟩ = false := blk_frozen KR5.out 1; have g2 : w5.frozen? ⟨w.heap.size + 1 + 1 + 1, 2, none⟩ = false := blk_frozen KR5.out 2; have g3 : w5.frozen? ⟨w.heap.size + 1 + 1 + 1, 3, none⟩ = false := blk_frozen KR5.out 3) | (go_at_call 97; first | (refine (must_ok _ _ (by first | exact hmle | exact hn3)).mono ?_; rintro e w8 ⟨rfl, rfl⟩) | (refine (must_over _ _ (by exact ov2)).mono ?_; rintro e w8 ⟨rfl, rfl⟩)))
                first | exact post_bad 3 HF2.out (by decide) rfl (HBB5.out.setCell (p := ⟨w.heap.size + 1 + 1 + 1 + 1, 2, none⟩) (by simp; omega) _) | exact ⟨rfl, post_bad 3 HF2.out (by decide) rfl (HBB5.out.setCell (p := ⟨w.heap.size + 1 + 1 + 1 + 1, 2, none⟩) (by simp; omega) _)⟩
              · rw [if_neg ov2] at HF2
                have hmn : m + n ≤ 1000000000 := by omega
                clear ov2
                go_wp2_with (first | (go_at_call 88; refine (money_Tax.calls _ _ _ _ _ (by exact HTX.out)).mono ?_; rintro e w5 ⟨rfl, hb5⟩; have HB5 := Aside0.mk hb5; have KB5 := Aside0.mk ((hb5.block _ (by simp; exact blk_lt KBw.out)).trans (blk_put KBw.out 1 (.int .i64 m) rfl)); have KR5 := Aside0.mk ((hb5.block _ (by simp; exact blk_lt KRw.out)).trans (blk_far KRw.out (by simp) (.int .i64 m))); have HRL5 := Aside0.mk (Kd.R_below (Kd.R_set HRLw.out KBw.out (by decide) 1 (.int .i64 m)) hb5); have HBB5 := Aside0.mk ((HBw.out.setCell (p := ⟨w.heap.size + 1 + 1 + 1 + 1, 1, none⟩) (by simp; omega) (.int .i64 m)).trans (hb5.mono (by simp; exact HBw.out.size))); clear hb5 q0 q1 q2 q3 f0 f1 f2 f3; have q0 : w5.cell? ⟨w.heap.size + 1 + 1 + 1 + 1, 0, none⟩ = some ((.slice Al lines.length cl)) := (blk_cell KB5.out 0).trans rfl; have q1 : w5.cell? ⟨w.heap.size + 1 + 1 + 1 + 1, 1, none⟩ = some (.int .i64 m) := (blk_cell KB5.out 1).trans rfl; have q2 : w5.cell? ⟨w.heap.size + 1 + 1 + 1 + 1, 2, none⟩ = some (.int .i64 0) := (blk_cell KB5.out 2).trans rfl; have q3 : w5.cell? ⟨w.heap.size + 1 + 1 + 1 + 1, 3, none⟩ = some (.int .i64 0) := (blk_cell KB5.out 3).trans rfl; have f0 : w5.frozen? ⟨w.heap.size + 1 + 1 + 1 + 1, 0, none⟩ = false := blk_frozen KB5.out 0; have f1 : w5.frozen? ⟨w.heap.size + 1 + 1 + 1 + 1, 1, none⟩ = false := blk_frozen KB5.out 1; have f2 : w5.frozen? ⟨w.heap.size + 1 + 1 + 1 + 1, 2, none⟩ = false := blk_frozen KB5.out 2; have f3 : w5.frozen? ⟨w.heap.size + 1 + 1 + 1 + 1, 3, none⟩ = false := blk_frozen KB5.out 3; have r0 : w5.cell? ⟨w.heap.size + 1 + 1 + 1, 0, none⟩ = some (.slice none 0 0) := (blk_cell KR5.out 0).trans rfl; have r1 : w5.cell? ⟨w.heap.size + 1 + 1 + 1, 1, none⟩ = some (.int .i64 0) := (blk_cell KR5.out 1).trans rfl; have r2 : w5.cell? ⟨w.heap.size + 1 + 1 + 1, 2, none⟩ = some (.int .i64 0) := (blk_cell KR5.out 2).trans rfl; have r3 : w5.cell? ⟨w.heap.size + 1 + 1 + 1, 3, none⟩ = some (.int .i64 0) := (blk_cell KR5.out 3).trans rfl; have g0 : w5.frozen? ⟨w.heap.size + 1 + 1 + 1, 0, none⟩ = false := blk_frozen KR5.out 0; have g1 : w5.frozen? ⟨w.heap.size + 1 + 1 + 1, 1, none⟩ = false := blk_frozen KR5.out 1; have g2 : w5.frozen? ⟨w.heap.size + 1 + 1 + 1, 2, none⟩ = false := blk_frozen KR5.out 2; have g3 : w5.frozen? ⟨w.heap.size + 1 + 1 + 1, 3, none⟩ = false := blk_frozen KR5.out 3) | (go_at_call 97; refine (must_ok _ _ (by first | exact hmle | exact hn3 | exact hmn)).mono ?_; rintro e w8 ⟨rfl, rfl⟩))
                have b2 := blk_put KB5.out 2 (.int .i64 n) rfl
                have c1 := blk_far (p := ⟨w.heap.size + 1 + 1 + 1 + 1, 3, none⟩) (blk_far (p := ⟨w.heap.size + 1 + 1 + 1 + 1, 2, none⟩) KR5.out (by simp) (.int .i64 n)) (by simp) (.int .i64 (m + n))
                have c2 := blk_put c1 0 (.slice Al lines.length cl) rfl
                have c3 := blk_put c2 1 (.int .i64 m) rfl
                have c4 := blk_put c3 2 (.int .i64 n) rfl
                have c5 := blk_put c4 3 (.int .i64 (m + n)) rfl
                have R6 := Kd.R_set (Kd.R_set (Kd.R_set (Kd.R_set (Kd.R_set (Kd.R_set HRL5.out KB5.out (by decide) 2 (.int .i64 n)) b2 (by decide) 3 (.int .i64 (m + n))) c1 (by decide) 0 (.slice Al lines.length cl)) c2 (by decide) 1 (.int .i64 m)) c3 (by decide) 2 (.int .i64 n)) c4 (by decide) 3 (.int .i64 (m + n))
                have B6 := (((((HBB5.out.setCell (p := ⟨w.heap.size + 1 + 1 + 1 + 1, 2, none⟩) (by simp; omega) (.int .i64 n)).setCell (p := ⟨w.heap.size + 1 + 1 + 1 + 1, 3, none⟩) (by simp; omega) (.int .i64 (m + n))).setCell (p := ⟨w.heap.size + 1 + 1 + 1, 0, none⟩) (by simp; omega) (.slice Al lines.length cl)).setCell (p := ⟨w.heap.size + 1 + 1 + 1, 1, none⟩) (by simp; omega) (.int .i64 m)).setCell (p := ⟨w.heap.size + 1 + 1 + 1, 2, none⟩) (by simp; omega) (.int .i64 n)).setCell (p := ⟨w.heap.size + 1 + 1 + 1, 3, none⟩) (by simp; omega) (.int .i64 (m + n))
                have e0 := (blk_cell c5 0).trans rfl
                have e1 := (blk_cell c5 1).trans rfl
                have e2 := (blk_cell c5 2).trans rfl
                have e3 := (blk_cell c5 3).trans rfl
                clear q0 q1 q2 q3 f0 f1 f2 f3 r0 r1 r2 r3 g0 g1 g2 g3 b2 c1 c2 c3 c4 c5
                refine bodyPost_ret (v := .agg #[.slice Al lines.length cl, .int .i64 m, .int .i64 n, .int .i64 (m + n)]) ?_ rfl (post_ok lines m n (m + n) HF2.out rfl R6 B6)
                generalize (((((w8.setCell ⟨w.heap.size + 1 + 1 + 1 + 1, 2, none⟩ (.int .i64 n)).setCell ⟨w.heap.size + 1 + 1 + 1 + 1, 3, none⟩ (.int .i64 (m + n))).setCell ⟨w.heap.size + 1 + 1 + 1, 0, none⟩ (.slice Al lines.length cl)).setCell ⟨w.heap.size + 1 + 1 + 1, 1, none⟩ (.int .i64 m)).setCell ⟨w.heap.size + 1 + 1 + 1, 2, none⟩ (.int .i64 n)).setCell ⟨w.heap.size + 1 + 1 + 1, 3, none⟩ (.int .i64 (m + n)) = Wf at e0 e1 e2 e3 ⊢
                simp [results, Try.results61, go_sem, e0, e1, e2, e3]
            · have HG := Aside0.mk g
              rw [if_neg g] at HF2
              clear g
              go_wp2_with (first | (go_at_call 88; refine (money_Tax.calls _ _ _ _ _ (by exact HTX.out)).mono ?_; rintro e w5 ⟨rfl, hb5⟩; have HB5 := Aside0.mk hb5; have KB5 := Aside0.mk ((hb5.block _ (by simp; exact blk_lt KBw.out)).trans (blk_put KBw.out 1 (.int .i64 m) rfl)); have KR5 := Aside0.mk ((hb5.block _ (by simp; exact blk_lt KRw.out)).trans (blk_far KRw.out (by simp) (.int .i64 m))); have HRL5 := Aside0.mk (Kd.R_below (Kd.R_set HRLw.out KBw.out (by decide) 1 (.int .i64 m)) hb5); have HBB5 := Aside0.mk ((HBw.out.setCell (p := ⟨w.heap.size + 1 + 1 + 1 + 1, 1, none⟩) (by simp; omega) (.int .i64 m)).trans (hb5.mono (by simp; exact HBw.out.size))); clear hb5 q0 q1 q2 q3 f0 f1 f2 f3; have q0 : w5.cell? ⟨w.heap.size + 1 + 1 + 1 + 1, 0, none⟩ = some ((.slice Al lines.length cl)) := (blk_cell KB5.out 0).trans rfl; have q1 : w5.cell? ⟨w.heap.size + 1 + 1 + 1 + 1, 1, none⟩ = some (.int .i64 m) := (blk_cell KB5.out 1).trans rfl; have q2 : w5.cell? ⟨w.heap.size + 1 + 1 + 1 + 1, 2, none⟩ = some (.int .i64 0) := (blk_cell KB5.out 2).trans rfl; have q3 : w5.cell? ⟨w.heap.size + 1 + 1 + 1 + 1, 3, none⟩ = some (.int .i64 0) := (blk_cell KB5.out 3).trans rfl; have f0 : w5.frozen? ⟨w.heap.size + 1 + 1 + 1 + 1, 0, none⟩ = false := blk_frozen KB5.out 0; have f1 : w5.frozen? ⟨w.heap.size + 1 + 1 + 1 + 1, 1, none⟩ = false := blk_frozen KB5.out 1; have f2 : w5.frozen? ⟨w.heap.size + 1 + 1 + 1 + 1, 2, none⟩ = false := blk_frozen KB5.out 2; have f3 : w5.frozen? ⟨w.heap.size + 1 + 1 + 1 + 1, 3, none⟩ = false := blk_frozen KB5.out 3; have r0 : w5.cell? ⟨w.heap.size + 1 + 1 + 1, 0, none⟩ = some (.slice none 0 0) := (blk_cell KR5.out 0).trans rfl; have r1 : w5.cell? ⟨w.heap.size + 1 + 1 + 1, 1, none⟩ = some (.int .i64 0) := (blk_cell KR5.out 1).trans rfl; have r2 : w5.cell? ⟨w.heap.size + 1 + 1 + 1, 2, none⟩ = some (.int .i64 0) := (blk_cell KR5.out 2).trans rfl; have r3 : w5.cell? ⟨w.heap.size + 1 + 1 + 1, 3, none⟩ = some (.int .i64 0) := (blk_cell KR5.out 3).trans rfl; have g0 : w5.frozen? ⟨w.heap.size + 1 + 1 + 1, 0, none⟩ = false := blk_frozen KR5.out 0; have g1 : w5.frozen? ⟨w.heap.size + 1 + 1 + 1, 1, none⟩ = false := blk_frozen KR5.out 1; have g2 : w5.frozen? ⟨w.heap.size + 1 + 1 + 1, 2, none⟩ = false := blk_frozen KR5.out 2; have g3 : w5.frozen? ⟨w.heap.size + 1 + 1 + 1, 3, none⟩ = false := blk_frozen KR5.out 3) | (go_at_call 97; first | (refine (must_bad _ _ _ (by exact HG.out)).mono ?_; rintro e w8 ⟨rfl, rfl⟩) | (refine (must_ok _ _ (by exact hmle)).mono ?_; rintro e w8 ⟨rfl, rfl⟩)))
              first | exact post_bad c HF2.out HG.out rfl HBB5.out | exact ⟨rfl, post_bad c HF2.out HG.out rfl HBB5.out⟩
        · go_simp
          gi_wp2_with (gi_at_call 96; refine (callsIn_wide.2 (HM.out _ (by repeat (first | exact Below.refl _ _ | apply below_drew1)))).mono ?_; rintro e w7 ⟨rfl, hb7⟩; have HB7 := Aside0.mk (hb7 : Below wr.heap.size wr.drew w7); have q1' : w7.cell? ⟨w.heap.size + 1 + 1 + 1 + 1, 1, none⟩ = some (.int .i64 net) := (hb7.cell (p := ⟨w.heap.size + 1 + 1 + 1 + 1, 1, none⟩) (blk_lt HKB.out)).trans q1; have f1' : w7.frozen? ⟨w.heap.size + 1 + 1 + 1 + 1, 1, none⟩ = false := (hb7.frozen (p := ⟨w.heap.size + 1 + 1 + 1 + 1, 1, none⟩) (blk_lt HKB.out)).trans f1; clear hb7)
          refine wpAnyIn_ready (rs := [1]) (by kernel_rfl) (by simp) ?_
          refine (AllReadyIn.cons rfl (fun K hK => ?_) AllReadyIn.nil)
          go_simp
          refine hK _ _ ?_
          clear hK K
          refine wpAnyIn_ready (rs := [4]) (by kernel_rfl) (by simp) ?_
          refine (AllReadyIn.cons rfl (fun K hK => ?_) AllReadyIn.nil)
          go_simp
          refine hK _ _ ?_
          clear hK K
          refine wpAnyIn_ready (rs := [5]) (by kernel_rfl) (by simp) ?_
          refine (AllReadyIn.cons rfl (fun K hK => ?_) AllReadyIn.nil)
          go_simp
          refine hK _ _ ?_
          clear hK K
          refine wpAnyIn_ready (rs := [6]) (by kernel_rfl) (by simp) ?_
          refine (AllReadyIn.cons rfl (fun K hK => ?_) AllReadyIn.nil)
          go_simp
          refine hK _ _ ?_
          clear hK K
          refine wpAnyIn_done (by kernel_rfl) ?_ _
          rw [show (if capMin caps < net then capMin caps else net) = mn net (capMin caps) from rfl]
          have KB7 := (HB7.out.block _ (by exact blk_lt HKB.out)).trans HKB.out
          have KR7 := (HB7.out.block _ (by exact blk_lt HKR.out)).trans HKR.out
          obtain ⟨m, hm⟩ : ∃ m, mn net (capMin caps) = m := ⟨_, rfl⟩
          have HF : Aside0 (billO o l1 l2 s0 s1 s2 l3 l0 = if 1000000000 < m then ⟨3, [], 0, 0, 0⟩ else if (money_Tax.v m rate).2 = 0 then (if 1000000000 < m + (money_Tax.v m rate).1 then ⟨3, [], 0, 0, 0⟩ else ⟨0, lines, m, (money_Tax.v m rate).1, m + (money_Tax.v m rate).1⟩) else ⟨(money_Tax.v m rate).2, [], 0, 0, 0⟩) := ⟨by
            rw [HE.out, billEnd, if_pos rfl]; dsimp only; rw [if_neg HCAP.out, hm]⟩
          have hm1 : m ≤ 12000000000 := by rw [← hm]; unfold mn; split <;> omega
          rw [hm]
          have KBw := Aside0.mk (blk_put KB7 1 (.int .i64 m) rfl)
          have KRw := Aside0.mk (blk_far (p := ⟨w.heap.size + 1 + 1 + 1 + 1, 1, none⟩) KR7 (by simp) (.int .i64 m))
          have HRLw := Aside0.mk (Kd.R_set (Kd.R_below (Kd.R_drew HRL.out) HB7.out) KB7 (by decide) 1 (.int .i64 m))
          have HBw := Aside0.mk ((HB.out.drew.trans (HB7.out.mono HB.out.size)).setCell (p := ⟨w.heap.size + 1 + 1 + 1 + 1, 1, none⟩) (by simp; omega) (.int .i64 m))
          generalize w7.setCell ⟨w.heap.size + 1 + 1 + 1 + 1, 1, none⟩ (.int .i64 m) = W at KBw KRw HRLw HBw ⊢
          clear HE hm KB7 KR7 HB7 q1 f1 q1' f1' HM HCAP
          have q0 : W.cell? ⟨w.heap.size + 1 + 1 + 1 + 1, 0, none⟩ = some ((.slice Al lines.length cl)) := (blk_cell KBw.out 0).trans rfl
          have q1 : W.cell? ⟨w.heap.size + 1 + 1 + 1 + 1, 1, none⟩ = some (.int .i64 m) := (blk_cell KBw.out 1).trans rfl
          have q2 : W.cell? ⟨w.heap.size + 1 + 1 + 1 + 1, 2, none⟩ = some (.int .i64 0) := (blk_cell KBw.out 2).trans rfl
          have q3 : W.cell? ⟨w.heap.size + 1 + 1 + 1 + 1, 3, none⟩ = some (.int .i64 0) := (blk_cell KBw.out 3).trans rfl
          have f0 : W.frozen? ⟨w.heap.size + 1 + 1 + 1 + 1, 0, none⟩ = false := blk_frozen KBw.out 0
          have f1 : W.frozen? ⟨w.heap.size + 1 + 1 + 1 + 1, 1, none⟩ = false := blk_frozen KBw.out 1
          have f2 : W.frozen? ⟨w.heap.size + 1 + 1 + 1 + 1, 2, none⟩ = false := blk_frozen KBw.out 2
          have f3 : W.frozen? ⟨w.heap.size + 1 + 1 + 1 + 1, 3, none⟩ = false := blk_frozen KBw.out 3
          by_cases ov : 1000000000 < m
          · have HO : Aside0 (billO o l1 l2 s0 s1 s2 l3 l0 = ⟨3, [], 0, 0, 0⟩) := ⟨by rw [HF.out, if_pos ov]⟩
            go_wp2_with (go_at_call 97; refine (must_over _ _ ov).mono ?_; rintro e w8 ⟨rfl, rfl⟩)
            first | exact post_bad 3 HO.out (by decide) rfl HBw.out | exact ⟨rfl, post_bad 3 HO.out (by decide) rfl HBw.out⟩
          · obtain ⟨n, c, htx⟩ : ∃ n c, money_Tax.v m rate = (n, c) := ⟨_, _, rfl⟩
            have HTX : Aside0 (money_Tax.f m rate = some (n, c)) := ⟨congrArg some htx⟩
            have HTX0 := Aside0.mk htx
            have hnb := tax_bd m rate
            rw [htx] at hnb
            obtain ⟨hn2, hn3⟩ := hnb
            dsimp only at hn2 hn3
            have hmle : m ≤ 1000000000 := by omega
            have HF2 := Aside0.mk HF.out
            rw [if_neg ov, htx] at HF2
            dsimp only at HF2
            clear htx HF ov
            by_cases g : c = 0
            · subst g
              have hm0 : 0 ≤ m := tax_arg HTX0.out
              rw [if_pos rfl] at HF2
              by_cases ov2 : 1000000000 < m + n
              · rw [if_pos ov2] at HF2
                go_wp2_with (first | (go_at_call 88; refine (money_Tax.calls _ _ _ _ _ (by exact HTX.out)).mono ?_; rintro e w5 ⟨rfl, hb5⟩; have HB5 := Aside0.mk hb5; have KB5 := Aside0.mk ((hb5.block _ (by simp; exact blk_lt KBw.out)).trans (blk_put KBw.out 1 (.int .i64 m) rfl)); have KR5 := Aside0.mk ((hb5.block _ (by simp; exact blk_lt KRw.out)).trans (blk_far KRw.out (by simp) (.int .i64 m))); have HRL5 := Aside0.mk (Kd.R_below (Kd.R_set HRLw.out KBw.out (by decide) 1 (.int .i64 m)) hb5); have HBB5 := Aside0.mk ((HBw.out.setCell (p := ⟨w.heap.size + 1 + 1 + 1 + 1, 1, none⟩) (by simp; omega) (.int .i64 m)).trans (hb5.mono (by simp; exact HBw.out.size))); clear hb5 q0 q1 q2 q3 f0 f1 f2 f3; have q0 : w5.cell? ⟨w.heap.size + 1 + 1 + 1 + 1, 0, none⟩ = some ((.slice Al lines.length cl)) := (blk_cell KB5.out 0).trans rfl; have q1 : w5.cell? ⟨w.heap.size + 1 + 1 + 1 + 1, 1, none⟩ = some (.int .i64 m) := (blk_cell KB5.out 1).trans rfl; have q2 : w5.cell? ⟨w.heap.size + 1 + 1 + 1 + 1, 2, none⟩ = some (.int .i64 0) := (blk_cell KB5.out 2).trans rfl; have q3 : w5.cell? ⟨w.heap.size + 1 + 1 + 1 + 1, 3, none⟩ = some (.int .i64 0) := (blk_cell KB5.out 3).trans rfl; have f0 : w5.frozen? ⟨w.heap.size + 1 + 1 + 1 + 1, 0, none⟩ = false := blk_frozen KB5.out 0; have f1 : w5.frozen? ⟨w.heap.size + 1 + 1 + 1 + 1, 1, none⟩ = false := blk_frozen KB5.out 1; have f2 : w5.frozen? ⟨w.heap.size + 1 + 1 + 1 + 1, 2, none⟩ = false := blk_frozen KB5.out 2; have f3 : w5.frozen? ⟨w.heap.size + 1 + 1 + 1 + 1, 3, none⟩ = false := blk_frozen KB5.out 3; have r0 : w5.cell? ⟨w.heap.size + 1 + 1 + 1, 0, none⟩ = some (.slice none 0 0) := (blk_cell KR5.out 0).trans rfl; have r1 : w5.cell? ⟨w.heap.size + 1 + 1 + 1, 1, none⟩ = some (.int .i64 0) := (blk_cell KR5.out 1).trans rfl; have r2 : w5.cell? ⟨w.heap.size + 1 + 1 + 1, 2, none⟩ = some (.int .i64 0) := (blk_cell KR5.out 2).trans rfl; have r3 : w5.cell? ⟨w.heap.size + 1 + 1 + 1, 3, none⟩ = some (.int .i64 0) := (blk_cell KR5.out 3).trans rfl; have g0 : w5.frozen? ⟨w.heap.size + 1 + 1 + 1, 0, none⟩ = false := blk_frozen KR5.out 0; have g1 : w5.frozen? ⟨w.heap.size + 1 + 1 + 1, 1, none⟩ = false := blk_frozen KR5.out 1; have g2 : w5.frozen? ⟨w.heap.size + 1 + 1 + 1, 2, none⟩ = false := blk_frozen KR5.out 2; have g3 : w5.frozen? ⟨w.heap.size + 1 + 1 + 1, 3, none⟩ = false := blk_frozen KR5.out 3) | (go_at_call 97; first | (refine (must_ok _ _ (by first | exact hmle | exact hn3)).mono ?_; rintro e w8 ⟨rfl, rfl⟩) | (refine (must_over _ _ (by exact ov2)).mono ?_; rintro e w8 ⟨rfl, rfl⟩)))
                first | exact post_bad 3 HF2.out (by decide) rfl (HBB5.out.setCell (p := ⟨w.heap.size + 1 + 1 + 1 + 1, 2, none⟩) (by simp; omega) _) | exact ⟨rfl, post_bad 3 HF2.out (by decide) rfl (HBB5.out.setCell (p := ⟨w.heap.size + 1 + 1 + 1 + 1, 2, none⟩) (by simp; omega) _)⟩
              · rw [if_neg ov2] at HF2
                have hmn : m + n ≤ 1000000000 := by omega
                clear ov2
                go_wp2_with (first | (go_at_call 88; refine (money_Tax.calls _ _ _ _ _ (by exact HTX.out)).mono ?_; rintro e w5 ⟨rfl, hb5⟩; have HB5 := Aside0.mk hb5; have KB5 := Aside0.mk ((hb5.block _ (by simp; exact blk_lt KBw.out)).trans (blk_put KBw.out 1 (.int .i64 m) rfl)); have KR5 := Aside0.mk ((hb5.block _ (by simp; exact blk_lt KRw.out)).trans (blk_far KRw.out (by simp) (.int .i64 m))); have HRL5 := Aside0.mk (Kd.R_below (Kd.R_set HRLw.out KBw.out (by decide) 1 (.int .i64 m)) hb5); have HBB5 := Aside0.mk ((HBw.out.setCell (p := ⟨w.heap.size + 1 + 1 + 1 + 1, 1, none⟩) (by simp; omega) (.int .i64 m)).trans (hb5.mono (by simp; exact HBw.out.size))); clear hb5 q0 q1 q2 q3 f0 f1 f2 f3; have q0 : w5.cell? ⟨w.heap.size + 1 + 1 + 1 + 1, 0, none⟩ = some ((.slice Al lines.length cl)) := (blk_cell KB5.out 0).trans rfl; have q1 : w5.cell? ⟨w.heap.size + 1 + 1 + 1 + 1, 1, none⟩ = some (.int .i64 m) := (blk_cell KB5.out 1).trans rfl; have q2 : w5.cell? ⟨w.heap.size + 1 + 1 + 1 + 1, 2, none⟩ = some (.int .i64 0) := (blk_cell KB5.out 2).trans rfl; have q3 : w5.cell? ⟨w.heap.size + 1 + 1 + 1 + 1, 3, none⟩ = some (.int .i64 0) := (blk_cell KB5.out 3).trans rfl; have f0 : w5.frozen? ⟨w.heap.size + 1 + 1 + 1 + 1, 0, none⟩ = false := blk_frozen KB5.out 0; have f1 : w5.frozen? ⟨w.heap.size + 1 + 1 + 1 + 1, 1, none⟩ = false := blk_frozen KB5.out 1; have f2 : w5.frozen? ⟨w.heap.size + 1 + 1 + 1 + 1, 2, none⟩ = false := blk_frozen KB5.out 2; have f3 : w5.frozen? ⟨w.heap.size + 1 + 1 + 1 + 1, 3, none⟩ = false := blk_frozen KB5.out 3; have r0 : w5.cell? ⟨w.heap.size + 1 + 1 + 1, 0, none⟩ = some (.slice none 0 0) := (blk_cell KR5.out 0).trans rfl; have r1 : w5.cell? ⟨w.heap.size + 1 + 1 + 1, 1, none⟩ = some (.int .i64 0) := (blk_cell KR5.out 1).trans rfl; have r2 : w5.cell? ⟨w.heap.size + 1 + 1 + 1, 2, none⟩ = some (.int .i64 0) := (blk_cell KR5.out 2).trans rfl; have r3 : w5.cell? ⟨w.heap.size + 1 + 1 + 1, 3, none⟩ = some (.int .i64 0) := (blk_cell KR5.out 3).trans rfl; have g0 : w5.frozen? ⟨w.heap.size + 1 + 1 + 1, 0, none⟩ = false := blk_frozen KR5.out 0; have g1 : w5.frozen? ⟨w.heap.size + 1 + 1 + 1, 1, none⟩ = false := blk_frozen KR5.out 1; have g2 : w5.frozen? ⟨w.heap.size + 1 + 1 + 1, 2, none⟩ = false := blk_frozen KR5.out 2; have g3 : w5.frozen? ⟨w.heap.size + 1 + 1 + 1, 3, none⟩ = false := blk_frozen KR5.out 3) | (go_at_call 97; refine (must_ok _ _ (by first | exact hmle | exact hn3 | exact hmn)).mono ?_; rintro e w8 ⟨rfl, rfl⟩))
                have b2 := blk_put KB5.out 2 (.int .i64 n) rfl
                have c1 := blk_far (p := ⟨w.heap.size + 1 + 1 + 1 + 1, 3, none⟩) (blk_far (p := ⟨w.heap.size + 1 + 1 + 1 + 1, 2, none⟩) KR5.out (by simp) (.int .i64 n)) (by simp) (.int .i64 (m + n))
                have c2 := blk_put c1 0 (.slice Al lines.length cl) rfl
                have c3 := blk_put c2 1 (.int .i64 m) rfl
                have c4 := blk_put c3 2 (.int .i64 n) rfl
                have c5 := blk_put c4 3 (.int .i64 (m + n)) rfl
                have R6 := Kd.R_set (Kd.R_set (Kd.R_set (Kd.R_set (Kd.R_set (Kd.R_set HRL5.out KB5.out (by decide) 2 (.int .i64 n)) b2 (by decide) 3 (.int .i64 (m + n))) c1 (by decide) 0 (.slice Al lines.length cl)) c2 (by decide) 1 (.int .i64 m)) c3 (by decide) 2 (.int .i64 n)) c4 (by decide) 3 (.int .i64 (m + n))
                have B6 := (((((HBB5.out.setCell (p := ⟨w.heap.size + 1 + 1 + 1 + 1, 2, none⟩) (by simp; omega) (.int .i64 n)).setCell (p := ⟨w.heap.size + 1 + 1 + 1 + 1, 3, none⟩) (by simp; omega) (.int .i64 (m + n))).setCell (p := ⟨w.heap.size + 1 + 1 + 1, 0, none⟩) (by simp; omega) (.slice Al lines.length cl)).setCell (p := ⟨w.heap.size + 1 + 1 + 1, 1, none⟩) (by simp; omega) (.int .i64 m)).setCell (p := ⟨w.heap.size + 1 + 1 + 1, 2, none⟩) (by simp; omega) (.int .i64 n)).setCell (p := ⟨w.heap.size + 1 + 1 + 1, 3, none⟩) (by simp; omega) (.int .i64 (m + n))
                have e0 := (blk_cell c5 0).trans rfl
                have e1 := (blk_cell c5 1).trans rfl
                have e2 := (blk_cell c5 2).trans rfl
                have e3 := (blk_cell c5 3).trans rfl
                clear q0 q1 q2 q3 f0 f1 f2 f3 r0 r1 r2 r3 g0 g1 g2 g3 b2 c1 c2 c3 c4 c5
                refine bodyPost_ret (v := .agg #[.slice Al lines.length cl, .int .i64 m, .int .i64 n, .int .i64 (m + n)]) ?_ rfl (post_ok lines m n (m + n) HF2.out rfl R6 B6)
                generalize (((((w8.setCell ⟨w.heap.size + 1 + 1 + 1 + 1, 2, none⟩ (.int .i64 n)).setCell ⟨w.heap.size + 1 + 1 + 1 + 1, 3, none⟩ (.int .i64 (m + n))).setCell ⟨w.heap.size + 1 + 1 + 1, 0, none⟩ (.slice Al lines.length cl)).setCell ⟨w.heap.size + 1 + 1 + 1, 1, none⟩ (.int .i64 m)).setCell ⟨w.heap.size + 1 + 1 + 1, 2, none⟩ (.int .i64 n)).setCell ⟨w.heap.size + 1 + 1 + 1, 3, none⟩ (.int .i64 (m + n)) = Wf at e0 e1 e2 e3 ⊢
                simp [results, Try.results61, go_sem, e0, e1, e2, e3]
            · have HG := Aside0.mk g
              rw [if_neg g] at HF2
              clear g
              go_wp2_with (first | (go_at_call 88; refine (money_Tax.calls _ _ _ _ _ (by exact HTX.out)).mono ?_; rintro e w5 ⟨rfl, hb5⟩; have HB5 := Aside0.mk hb5; have KB5 := Aside0.mk ((hb5.block _ (by simp; exact blk_lt KBw.out)).trans (blk_put KBw.out 1 (.int .i64 m) rfl)); have KR5 := Aside0.mk ((hb5.block _ (by simp; exact blk_lt KRw.out)).trans (blk_far KRw.out (by simp) (.int .i64 m))); have HRL5 := Aside0.mk (Kd.R_below (Kd.R_set HRLw.out KBw.out (by decide) 1 (.int .i64 m)) hb5); have HBB5 := Aside0.mk ((HBw.out.setCell (p := ⟨w.heap.size + 1 + 1 + 1 + 1, 1, none⟩) (by simp; omega) (.int .i64 m)).trans (hb5.mono (by simp; exact HBw.out.size))); clear hb5 q0 q1 q2 q3 f0 f1 f2 f3; have q0 : w5.cell? ⟨w.heap.size + 1 + 1 + 1 + 1, 0, none⟩ = some ((.slice Al lines.length cl)) := (blk_cell KB5.out 0).trans rfl; have q1 : w5.cell? ⟨w.heap.size + 1 + 1 + 1 + 1, 1, none⟩ = some (.int .i64 m) := (blk_cell KB5.out 1).trans rfl; have q2 : w5.cell? ⟨w.heap.size + 1 + 1 + 1 + 1, 2, none⟩ = some (.int .i64 0) := (blk_cell KB5.out 2).trans rfl; have q3 : w5.cell? ⟨w.heap.size + 1 + 1 + 1 + 1, 3, none⟩ = some (.int .i64 0) := (blk_cell KB5.out 3).trans rfl; have f0 : w5.frozen? ⟨w.heap.size + 1 + 1 + 1 + 1, 0, none⟩ = false := blk_frozen KB5.out 0; have f1 : w5.frozen? ⟨w.heap.size + 1 + 1 + 1 + 1, 1, none⟩ = false := blk_frozen KB5.out 1; have f2 : w5.frozen? ⟨w.heap.size + 1 + 1 + 1 + 1, 2, none⟩ = false := blk_frozen KB5.out 2; have f3 : w5.frozen? ⟨w.heap.size + 1 + 1 + 1 + 1, 3, none⟩ = false := blk_frozen KB5.out 3; have r0 : w5.cell? ⟨w.heap.size + 1 + 1 + 1, 0, none⟩ = some (.slice none 0 0) := (blk_cell KR5.out 0).trans rfl; have r1 : w5.cell? ⟨w.heap.size + 1 + 1 + 1, 1, none⟩ = some (.int .i64 0) := (blk_cell KR5.out 1).trans rfl; have r2 : w5.cell? ⟨w.heap.size + 1 + 1 + 1, 2, none⟩ = some (.int .i64 0) := (blk_cell KR5.out 2).trans rfl; have r3 : w5.cell? ⟨w.heap.size + 1 + 1 + 1, 3, none⟩ = some (.int .i64 0) := (blk_cell KR5.out 3).trans rfl; have g0 : w5.frozen? ⟨w.heap.size + 1 + 1 + 1, 0, none⟩ = false := blk_frozen KR5.out 0; have g1 : w5.frozen? ⟨w.heap.size + 1 + 1 + 1, 1, none⟩ = false := blk_frozen KR5.out 1; have g2 : w5.frozen? ⟨w.heap.size + 1 + 1 + 1, 2, none⟩ = false := blk_frozen KR5.out 2; have g3 : w5.frozen? ⟨w.heap.size + 1 + 1 + 1, 3, none⟩ = false := blk_frozen KR5.out 3) | (go_at_call 97; first | (refine (must_bad _ _ _ (by exact HG.out)).mono ?_; rintro e w8 ⟨rfl, rfl⟩) | (refine (must_ok _ _ (by exact hmle)).mono ?_; rintro e w8 ⟨rfl, rfl⟩)))
              first | exact post_bad c HF2.out HG.out rfl HBB5.out | exact ⟨rfl, post_bad c HF2.out HG.out rfl HBB5.out⟩
end Go.Proofs.Ytbkkgaiokmnmgaa.Pr
/- Package bill over this program: Bill. -/
namespace Go.Proofs.Ytbkkgaiokmnmgaa.Pr
open Go.RowKit Go.Proofs.YtbkkgaiokmnmgaaW.PrintWords Go.Proofs.YtbkkgaiokmnmgaaW.PrintLast Go.Proofs.YtbkkgaiokmnmgaaW.PrintMore
set_option linter.unusedVariables false
set_option linter.unusedSimpArgs false
def bill_Bill.f (a0_0 : ByteArray) (l0_1 : List S26) (a1_0 : Int) (l1_1 : List S99) (l1_2 : List Int) (a2_0 a2_1 a2_2 : Int) (l2_3 : List S50) : Option (List S48 × Int × Int × Int × Int) :=
  some (if tvalB a0_0 l0_1 = true ∧ dvalidB a1_0 l1_1 l1_2 = true ∧ svalB a2_0 a2_1 a2_2 l2_3 = true then
    (if (billO a1_0 l1_1 l1_2 a2_0 a2_1 a2_2 l2_3 l0_1).err = 0 then ((billO a1_0 l1_1 l1_2 a2_0 a2_1 a2_2 l2_3 l0_1).lines, (billO a1_0 l1_1 l1_2 a2_0 a2_1 a2_2 l2_3 l0_1).net, (billO a1_0 l1_1 l1_2 a2_0 a2_1 a2_2 l2_3 l0_1).tax, (billO a1_0 l1_1 l1_2 a2_0 a2_1 a2_2 l2_3 l0_1).total, 0)
    else ([], 0, 0, 0, (billO a1_0 l1_1 l1_2 a2_0 a2_1 a2_2 l2_3 l0_1).err)) else ([], 0, 0, 0, 1))
/-- What Bill hands back. -/
def BOutP (w : World) (r1 : List S48) (r2 r3 r4 r5 : Int) (e : Ending) (w' : World) : Prop := ∃ v0_ : Value, e = .returned (.tuple #[.agg #[v0_, .int .i64 r2, .int .i64 r3, .int .i64 r4], .int .i64 r5]) ∧ Kd.R k48 48 w' w.heap.size (fun _ => True) v0_ r1 ∧ Below w.heap.size w w'
theorem bout_bad {w w' : World} {r1 : List S48} {r2 r3 r4 r5 c : Int} {e : Ending} (hr : (r1, r2, r3, r4, r5) = (([] : List S48), (0 : Int), (0 : Int), (0 : Int), c)) (he : e = .returned (.tuple #[.agg #[.slice none 0 0, .int .i64 0, .int .i64 0, .int .i64 0], .int .i64 c])) (hb : Below w.heap.size w w') : BOutP w r1 r2 r3 r4 r5 e w' := by
  cases hr
  exact ⟨_, he, Kd.R_nil _ _ _ _ _, hb⟩
set_option maxRecDepth 1000000 in
set_option maxHeartbeats 8000000 in
theorem bill_Bill.calls0 (a0_0 : ByteArray) (A0_1 : Option Addr) (c0_1 : Nat) (l0_1 : List S26) (a1_0 : Int) (A1_1 : Option Addr) (c1_1 : Nat) (l1_1 : List S99) (A1_2 : Option Addr) (c1_2 : Nat) (l1_2 : List Int) (a2_0 a2_1 a2_2 : Int) (A2_3 : Option Addr) (c2_3 : Nat) (l2_3 : List S50) (r1 : List S48) (r2 r3 r4 r5 : Int) (w : World)
    (hr0_1 : Kd.C k26 w A0_1 l0_1.length l0_1) (hc0_1 : l0_1.length ≤ c0_1) (hr1_1 : Kd.C k99 w A1_1 l1_1.length l1_1) (hc1_1 : l1_1.length ≤ c1_1) (hr1_2 : Kd.C (Kd.int .i64) w A1_2 l1_2.length l1_2) (hc1_2 : l1_2.length ≤ c1_2) (hr2_3 : Kd.C k50 w A2_3 l2_3.length l2_3) (hc2_3 : l2_3.length ≤ c2_3)
    (h : bill_Bill.f a0_0 l0_1 a1_0 l1_1 l1_2 a2_0 a2_1 a2_2 l2_3 = some (r1, r2, r3, r4, r5)) :
    Calls Try.prog 27 #[.agg #[.string a0_0, .slice A0_1 l0_1.length c0_1], .agg #[.int .i64 a1_0, .slice A1_1 l1_1.length c1_1, .slice A1_2 l1_2.length c1_2], .agg #[.int .i64 a2_0, .int .i64 a2_1, .int .i64 a2_2, .slice A2_3 l2_3.length c2_3]] w (BOutP w r1 r2 r3 r4 r5) := by
  have HR0 := Aside0.mk hr0_1
  have HR1 := Aside0.mk hr1_1
  have HR2 := Aside0.mk hr1_2
  have HR3 := Aside0.mk hr2_3
  have HC := Aside0.mk (And.intro hc0_1 (And.intro hc1_1 (And.intro hc1_2 hc2_3)))
  replace h := Option.some.inj h
  have HV := Aside0.mk h
  clear hr0_1 hc0_1 hr1_1 hc1_1 hr1_2 hc1_2 hr2_3 hc2_3 h
  have HT : Aside0 (∀ W, Below w.heap.size w W → _) := ⟨fun W hW => tariff_Valid.calls (l0_1.length + 3) a0_0 A0_1 c0_1 l0_1 _ W (Kd.C_below HR0.out hW) HC.out.1 (tval_f (l0_1.length + 3) a0_0 l0_1 (Kd.C_max HR0.out) (by omega))⟩
  go_enter_defers Try.func27, Try.ntmps27
  go_wp2_with fail
  obtain ⟨W0, hW0, hB0, hsz, h1, h2, h3, h4, h5⟩ := five_blocks w (.cells #[.string a0_0, .slice A0_1 l0_1.length c0_1] 24) (.cells #[.int .i64 a1_0, .slice A1_1 l1_1.length c1_1, .slice A1_2 l1_2.length c1_2] 30) (.cells #[.int .i64 a2_0, .int .i64 a2_1, .int .i64 a2_2, .slice A2_3 l2_3.length c2_3] 33) (.cells #[.slice none 0 0, .int .i64 0, .int .i64 0, .int .i64 0] 38) (.cells #[.int .i64 0] 39)
  rw [hW0]
  clear hW0
  have H0 := Aside0.mk (And.intro hB0 hsz)
  have HBT := Aside0.mk h1
  have HBC := Aside0.mk h2
  have HBS := Aside0.mk h3
  have HBR := Aside0.mk h4
  have HBE := Aside0.mk h5
  clear h1 h2 h3 h4 h5 hB0 hsz
  refine (HT.out W0 H0.out.1).mono ?_
  rintro e w2 ⟨rfl, hb2⟩
  have HB2 := Aside0.mk hb2
  clear hb2 HT
  cases d1 : tvalB a0_0 l0_1
  · have HR : Aside0 ((r1, r2, r3, r4, r5) = (([] : List S48), (0 : Int), (0 : Int), (0 : Int), (1 : Int))) := ⟨by rw [← HV.out, d1, if_neg (by simp)]⟩
    have er := (HB2.out.block _ (blk_lt HBR.out)).trans HBR.out
    have ee := (HB2.out.block _ (blk_lt HBE.out)).trans HBE.out
    have r0 : w2.cell? ⟨w.heap.size + 1 + 1 + 1, 0, none⟩ = some (.slice none 0 0) := (blk_cell er 0).trans rfl
    have r1 : w2.cell? ⟨w.heap.size + 1 + 1 + 1, 1, none⟩ = some (.int .i64 0) := (blk_cell er 1).trans rfl
    have r2 : w2.cell? ⟨w.heap.size + 1 + 1 + 1, 2, none⟩ = some (.int .i64 0) := (blk_cell er 2).trans rfl
    have r3 : w2.cell? ⟨w.heap.size + 1 + 1 + 1, 3, none⟩ = some (.int .i64 0) := (blk_cell er 3).trans rfl
    have g0 : w2.frozen? ⟨w.heap.size + 1 + 1 + 1, 0, none⟩ = false := blk_frozen er 0
    have g1 : w2.frozen? ⟨w.heap.size + 1 + 1 + 1, 1, none⟩ = false := blk_frozen er 1
    have g2 : w2.frozen? ⟨w.heap.size + 1 + 1 + 1, 2, none⟩ = false := blk_frozen er 2
    have g3 : w2.frozen? ⟨w.heap.size + 1 + 1 + 1, 3, none⟩ = false := blk_frozen er 3
    have e0 : w2.cell? ⟨w.heap.size + 1 + 1 + 1 + 1, 0, none⟩ = some (.int .i64 0) := (blk_cell ee 0).trans rfl
    have h0 : w2.frozen? ⟨w.heap.size + 1 + 1 + 1 + 1, 0, none⟩ = false := blk_frozen ee 0
    have c1 := blk_put er 0 (.slice none 0 0) rfl
    have c2 := blk_put c1 1 (.int .i64 0) rfl
    have c3 := blk_put c2 2 (.int .i64 0) rfl
    have c4 := blk_put c3 3 (.int .i64 0) rfl
    have c5 := blk_far (p := ⟨w.heap.size + 1 + 1 + 1 + 1, 0, none⟩) c4 (by simp) (.int .i64 1)
    have d1 := blk_far (p := ⟨w.heap.size + 1 + 1 + 1, 3, none⟩) (blk_far (p := ⟨w.heap.size + 1 + 1 + 1, 2, none⟩) (blk_far (p := ⟨w.heap.size + 1 + 1 + 1, 1, none⟩) (blk_far (p := ⟨w.heap.size + 1 + 1 + 1, 0, none⟩) ee (by simp) (.slice none 0 0)) (by simp) (.int .i64 0)) (by simp) (.int .i64 0)) (by simp) (.int .i64 0)
    have d2 := blk_put d1 0 (.int .i64 1) rfl
    have x0 := (blk_cell c5 0).trans rfl
    have x1 := (blk_cell c5 1).trans rfl
    have x2 := (blk_cell c5 2).trans rfl
    have x3 := (blk_cell c5 3).trans rfl
    have x4 := (blk_cell d2 0).trans rfl
    have B5 := (((((H0.out.1.trans (HB2.out.mono (by have := H0.out.2; omega))).setCell (p := ⟨w.heap.size + 1 + 1 + 1, 0, none⟩) (by simp; omega) (.slice none 0 0)).setCell (p := ⟨w.heap.size + 1 + 1 + 1, 1, none⟩) (by simp; omega) (.int .i64 0)).setCell (p := ⟨w.heap.size + 1 + 1 + 1, 2, none⟩) (by simp; omega) (.int .i64 0)).setCell (p := ⟨w.heap.size + 1 + 1 + 1, 3, none⟩) (by simp; omega) (.int .i64 0)).setCell (p := ⟨w.heap.size + 1 + 1 + 1 + 1, 0, none⟩) (by simp; omega) (.int .i64 1)
    have HX := Aside0.mk (And.intro x0 (And.intro x1 (And.intro x2 (And.intro x3 (And.intro x4 B5)))))
    clear er ee c1 c2 c3 c4 c5 d1 d2 x0 x1 x2 x3 x4 B5 HV
    go_wp2
    have HY := HX.out
    clear r0 r1 r2 r3 g0 g1 g2 g3 e0 h0
    generalize ((((w2.setCell ⟨w.heap.size + 1 + 1 + 1, 0, none⟩ (.slice none 0 0)).setCell ⟨w.heap.size + 1 + 1 + 1, 1, none⟩ (.int .i64 0)).setCell ⟨w.heap.size + 1 + 1 + 1, 2, none⟩ (.int .i64 0)).setCell ⟨w.heap.size + 1 + 1 + 1, 3, none⟩ (.int .i64 0)).setCell ⟨w.heap.size + 1 + 1 + 1 + 1, 0, none⟩ (.int .i64 1) = Wf at HY ⊢
    obtain ⟨x0, x1, x2, x3, x4, B5⟩ := HY
    exact ⟨.tuple #[.agg #[.slice none 0 0, .int .i64 0, .int .i64 0, .int .i64 0], .int .i64 1], by simp [results, Try.results27, go_sem, x0, x1, x2, x3, x4], bout_bad HR.out rfl B5⟩
  have HBT2 := Aside0.mk ((HB2.out.block _ (blk_lt HBT.out)).trans HBT.out)
  have HBC2 := Aside0.mk ((HB2.out.block _ (blk_lt HBC.out)).trans HBC.out)
  have HBS2 := Aside0.mk ((HB2.out.block _ (blk_lt HBS.out)).trans HBS.out)
  have HBR2 := Aside0.mk ((HB2.out.block _ (blk_lt HBR.out)).trans HBR.out)
  have HBE2 := Aside0.mk ((HB2.out.block _ (blk_lt HBE.out)).trans HBE.out)
  clear HBT HBC HBS HBR HBE
  have HD : Aside0 (∀ W, Below w.heap.size w W → _) := ⟨fun W hW => days_Valid.calls a1_0 A1_1 c1_1 l1_1 A1_2 c1_2 l1_2 _ W (Kd.C_below HR1.out hW) HC.out.2.1 (Kd.C_below HR2.out hW) HC.out.2.2.1 rfl⟩
  have y0 : w2.cell? ⟨w.heap.size + 1, 0, none⟩ = some (.int .i64 a1_0) := (blk_cell HBC2.out 0).trans rfl
  have y1 : w2.cell? ⟨w.heap.size + 1, 1, none⟩ = some (.slice A1_1 l1_1.length c1_1) := (blk_cell HBC2.out 1).trans rfl
  have y2 : w2.cell? ⟨w.heap.size + 1, 2, none⟩ = some (.slice A1_2 l1_2.length c1_2) := (blk_cell HBC2.out 2).trans rfl
  go_wp2_with fail
  refine (HD.out w2 (H0.out.1.trans (HB2.out.mono (by have := H0.out.2; omega)))).mono ?_
  rintro e w3 ⟨rfl, hb3⟩
  have HB3 := Aside0.mk hb3
  clear hb3 HD y0 y1 y2
  cases d2 : dvalidB a1_0 l1_1 l1_2
  · have HR : Aside0 ((r1, r2, r3, r4, r5) = (([] : List S48), (0 : Int), (0 : Int), (0 : Int), (1 : Int))) := ⟨by rw [← HV.out, d2, if_neg (by simp)]⟩
    have er := (HB3.out.block _ (blk_lt HBR2.out)).trans HBR2.out
    have ee := (HB3.out.block _ (blk_lt HBE2.out)).trans HBE2.out
    have r0 : w3.cell? ⟨w.heap.size + 1 + 1 + 1, 0, none⟩ = some (.slice none 0 0) := (blk_cell er 0).trans rfl
    have r1 : w3.cell? ⟨w.heap.size + 1 + 1 + 1, 1, none⟩ = some (.int .i64 0) := (blk_cell er 1).trans rfl
    have r2 : w3.cell? ⟨w.heap.size + 1 + 1 + 1, 2, none⟩ = some (.int .i64 0) := (blk_cell er 2).trans rfl
    have r3 : w3.cell? ⟨w.heap.size + 1 + 1 + 1, 3, none⟩ = some (.int .i64 0) := (blk_cell er 3).trans rfl
    have g0 : w3.frozen? ⟨w.heap.size + 1 + 1 + 1, 0, none⟩ = false := blk_frozen er 0
    have g1 : w3.frozen? ⟨w.heap.size + 1 + 1 + 1, 1, none⟩ = false := blk_frozen er 1
    have g2 : w3.frozen? ⟨w.heap.size + 1 + 1 + 1, 2, none⟩ = false := blk_frozen er 2
    have g3 : w3.frozen? ⟨w.heap.size + 1 + 1 + 1, 3, none⟩ = false := blk_frozen er 3
    have e0 : w3.cell? ⟨w.heap.size + 1 + 1 + 1 + 1, 0, none⟩ = some (.int .i64 0) := (blk_cell ee 0).trans rfl
    have h0 : w3.frozen? ⟨w.heap.size + 1 + 1 + 1 + 1, 0, none⟩ = false := blk_frozen ee 0
    have c1 := blk_put er 0 (.slice none 0 0) rfl
    have c2 := blk_put c1 1 (.int .i64 0) rfl
    have c3 := blk_put c2 2 (.int .i64 0) rfl
    have c4 := blk_put c3 3 (.int .i64 0) rfl
    have c5 := blk_far (p := ⟨w.heap.size + 1 + 1 + 1 + 1, 0, none⟩) c4 (by simp) (.int .i64 1)
    have d1 := blk_far (p := ⟨w.heap.size + 1 + 1 + 1, 3, none⟩) (blk_far (p := ⟨w.heap.size + 1 + 1 + 1, 2, none⟩) (blk_far (p := ⟨w.heap.size + 1 + 1 + 1, 1, none⟩) (blk_far (p := ⟨w.heap.size + 1 + 1 + 1, 0, none⟩) ee (by simp) (.slice none 0 0)) (by simp) (.int .i64 0)) (by simp) (.int .i64 0)) (by simp) (.int .i64 0)
    have d2 := blk_put d1 0 (.int .i64 1) rfl
    have x0 := (blk_cell c5 0).trans rfl
    have x1 := (blk_cell c5 1).trans rfl
    have x2 := (blk_cell c5 2).trans rfl
    have x3 := (blk_cell c5 3).trans rfl
    have x4 := (blk_cell d2 0).trans rfl
    have B5 := ((((((H0.out.1.trans (HB2.out.mono (by have := H0.out.2; omega))).trans (HB3.out.mono (by have := H0.out.2; have := HB2.out.size; omega))).setCell (p := ⟨w.heap.size + 1 + 1 + 1, 0, none⟩) (by simp; omega) (.slice none 0 0)).setCell (p := ⟨w.heap.size + 1 + 1 + 1, 1, none⟩) (by simp; omega) (.int .i64 0)).setCell (p := ⟨w.heap.size + 1 + 1 + 1, 2, none⟩) (by simp; omega) (.int .i64 0)).setCell (p := ⟨w.heap.size + 1 + 1 + 1, 3, none⟩) (by simp; omega) (.int .i64 0)).setCell (p := ⟨w.heap.size + 1 + 1 + 1 + 1, 0, none⟩) (by simp; omega) (.int .i64 1)
    have HX := Aside0.mk (And.intro x0 (And.intro x1 (And.intro x2 (And.intro x3 (And.intro x4 B5)))))
    clear er ee c1 c2 c3 c4 c5 d1 d2 x0 x1 x2 x3 x4 B5 HV
    go_wp2
    have HY := HX.out
    clear r0 r1 r2 r3 g0 g1 g2 g3 e0 h0
    generalize ((((w3.setCell ⟨w.heap.size + 1 + 1 + 1, 0, none⟩ (.slice none 0 0)).setCell ⟨w.heap.size + 1 + 1 + 1, 1, none⟩ (.int .i64 0)).setCell ⟨w.heap.size + 1 + 1 + 1, 2, none⟩ (.int .i64 0)).setCell ⟨w.heap.size + 1 + 1 + 1, 3, none⟩ (.int .i64 0)).setCell ⟨w.heap.size + 1 + 1 + 1 + 1, 0, none⟩ (.int .i64 1) = Wf at HY ⊢
    obtain ⟨x0, x1, x2, x3, x4, B5⟩ := HY
    exact ⟨.tuple #[.agg #[.slice none 0 0, .int .i64 0, .int .i64 0, .int .i64 0], .int .i64 1], by simp [results, Try.results27, go_sem, x0, x1, x2, x3, x4], bout_bad HR.out rfl B5⟩
  have HBT3 := Aside0.mk ((HB3.out.block _ (blk_lt HBT2.out)).trans HBT2.out)
  have HBC3 := Aside0.mk ((HB3.out.block _ (blk_lt HBC2.out)).trans HBC2.out)
  have HBS3 := Aside0.mk ((HB3.out.block _ (blk_lt HBS2.out)).trans HBS2.out)
  have HBR3 := Aside0.mk ((HB3.out.block _ (blk_lt HBR2.out)).trans HBR2.out)
  have HBE3 := Aside0.mk ((HB3.out.block _ (blk_lt HBE2.out)).trans HBE2.out)
  clear HBT2 HBC2 HBS2 HBR2 HBE2
  have HS : Aside0 (∀ W, Below w.heap.size w W → _) := ⟨fun W hW => bill_Valid.calls 60 a2_0 a2_1 a2_2 A2_3 c2_3 l2_3 _ W (Kd.C_below HR3.out hW) HC.out.2.2.2 (sval_f 60 _ _ _ _ (Nat.le_refl _))⟩
  have z0 : w3.cell? ⟨w.heap.size + 1 + 1, 0, none⟩ = some (.int .i64 a2_0) := (blk_cell HBS3.out 0).trans rfl
  have z1 : w3.cell? ⟨w.heap.size + 1 + 1, 1, none⟩ = some (.int .i64 a2_1) := (blk_cell HBS3.out 1).trans rfl
  have z2 : w3.cell? ⟨w.heap.size + 1 + 1, 2, none⟩ = some (.int .i64 a2_2) := (blk_cell HBS3.out 2).trans rfl
  have z3 : w3.cell? ⟨w.heap.size + 1 + 1, 3, none⟩ = some (.slice A2_3 l2_3.length c2_3) := (blk_cell HBS3.out 3).trans rfl
  go_wp2_with fail
  refine (HS.out w3 ((H0.out.1.trans (HB2.out.mono (by have := H0.out.2; omega))).trans (HB3.out.mono (by have := H0.out.2; have := HB2.out.size; omega)))).mono ?_
  rintro e w4 ⟨rfl, hb4⟩
  have HB4 := Aside0.mk hb4
  clear hb4 HS z0 z1 z2 z3
  cases d3 : svalB a2_0 a2_1 a2_2 l2_3
  · have HR : Aside0 ((r1, r2, r3, r4, r5) = (([] : List S48), (0 : Int), (0 : Int), (0 : Int), (1 : Int))) := ⟨by rw [← HV.out, d3, if_neg (by simp)]⟩
    have er := (HB4.out.block _ (blk_lt HBR3.out)).trans HBR3.out
    have ee := (HB4.out.block _ (blk_lt HBE3.out)).trans HBE3.out
    have r0 : w4.cell? ⟨w.heap.size + 1 + 1 + 1, 0, none⟩ = some (.slice none 0 0) := (blk_cell er 0).trans rfl
    have r1 : w4.cell? ⟨w.heap.size + 1 + 1 + 1, 1, none⟩ = some (.int .i64 0) := (blk_cell er 1).trans rfl
    have r2 : w4.cell? ⟨w.heap.size + 1 + 1 + 1, 2, none⟩ = some (.int .i64 0) := (blk_cell er 2).trans rfl
    have r3 : w4.cell? ⟨w.heap.size + 1 + 1 + 1, 3, none⟩ = some (.int .i64 0) := (blk_cell er 3).trans rfl
    have g0 : w4.frozen? ⟨w.heap.size + 1 + 1 + 1, 0, none⟩ = false := blk_frozen er 0
    have g1 : w4.frozen? ⟨w.heap.size + 1 + 1 + 1, 1, none⟩ = false := blk_frozen er 1
    have g2 : w4.frozen? ⟨w.heap.size + 1 + 1 + 1, 2, none⟩ = false := blk_frozen er 2
    have g3 : w4.frozen? ⟨w.heap.size + 1 + 1 + 1, 3, none⟩ = false := blk_frozen er 3
    have e0 : w4.cell? ⟨w.heap.size + 1 + 1 + 1 + 1, 0, none⟩ = some (.int .i64 0) := (blk_cell ee 0).trans rfl
    have h0 : w4.frozen? ⟨w.heap.size + 1 + 1 + 1 + 1, 0, none⟩ = false := blk_frozen ee 0
    have c1 := blk_put er 0 (.slice none 0 0) rfl
    have c2 := blk_put c1 1 (.int .i64 0) rfl
    have c3 := blk_put c2 2 (.int .i64 0) rfl
    have c4 := blk_put c3 3 (.int .i64 0) rfl
    have c5 := blk_far (p := ⟨w.heap.size + 1 + 1 + 1 + 1, 0, none⟩) c4 (by simp) (.int .i64 1)
    have d1 := blk_far (p := ⟨w.heap.size + 1 + 1 + 1, 3, none⟩) (blk_far (p := ⟨w.heap.size + 1 + 1 + 1, 2, none⟩) (blk_far (p := ⟨w.heap.size + 1 + 1 + 1, 1, none⟩) (blk_far (p := ⟨w.heap.size + 1 + 1 + 1, 0, none⟩) ee (by simp) (.slice none 0 0)) (by simp) (.int .i64 0)) (by simp) (.int .i64 0)) (by simp) (.int .i64 0)
    have d2 := blk_put d1 0 (.int .i64 1) rfl
    have x0 := (blk_cell c5 0).trans rfl
    have x1 := (blk_cell c5 1).trans rfl
    have x2 := (blk_cell c5 2).trans rfl
    have x3 := (blk_cell c5 3).trans rfl
    have x4 := (blk_cell d2 0).trans rfl
    have B5 := (((((((H0.out.1.trans (HB2.out.mono (by have := H0.out.2; omega))).trans (HB3.out.mono (by have := H0.out.2; have := HB2.out.size; omega))).trans (HB4.out.mono (by have := H0.out.2; have := HB2.out.size; have := HB3.out.size; omega))).setCell (p := ⟨w.heap.size + 1 + 1 + 1, 0, none⟩) (by simp; omega) (.slice none 0 0)).setCell (p := ⟨w.heap.size + 1 + 1 + 1, 1, none⟩) (by simp; omega) (.int .i64 0)).setCell (p := ⟨w.heap.size + 1 + 1 + 1, 2, none⟩) (by simp; omega) (.int .i64 0)).setCell (p := ⟨w.heap.size + 1 + 1 + 1, 3, none⟩) (by simp; omega) (.int .i64 0)).setCell (p := ⟨w.heap.size + 1 + 1 + 1 + 1, 0, none⟩) (by simp; omega) (.int .i64 1)
    have HX := Aside0.mk (And.intro x0 (And.intro x1 (And.intro x2 (And.intro x3 (And.intro x4 B5)))))
    clear er ee c1 c2 c3 c4 c5 d1 d2 x0 x1 x2 x3 x4 B5 HV
    go_wp2
    have HY := HX.out
    clear r0 r1 r2 r3 g0 g1 g2 g3 e0 h0
    generalize ((((w4.setCell ⟨w.heap.size + 1 + 1 + 1, 0, none⟩ (.slice none 0 0)).setCell ⟨w.heap.size + 1 + 1 + 1, 1, none⟩ (.int .i64 0)).setCell ⟨w.heap.size + 1 + 1 + 1, 2, none⟩ (.int .i64 0)).setCell ⟨w.heap.size + 1 + 1 + 1, 3, none⟩ (.int .i64 0)).setCell ⟨w.heap.size + 1 + 1 + 1 + 1, 0, none⟩ (.int .i64 1) = Wf at HY ⊢
    obtain ⟨x0, x1, x2, x3, x4, B5⟩ := HY
    exact ⟨.tuple #[.agg #[.slice none 0 0, .int .i64 0, .int .i64 0, .int .i64 0], .int .i64 1], by simp [results, Try.results27, go_sem, x0, x1, x2, x3, x4], bout_bad HR.out rfl B5⟩
  have HBT4 := Aside0.mk ((HB4.out.block _ (blk_lt HBT3.out)).trans HBT3.out)
  have HBC4 := Aside0.mk ((HB4.out.block _ (blk_lt HBC3.out)).trans HBC3.out)
  have HBS4 := Aside0.mk ((HB4.out.block _ (blk_lt HBS3.out)).trans HBS3.out)
  have HBR4 := Aside0.mk ((HB4.out.block _ (blk_lt HBR3.out)).trans HBR3.out)
  have HBE4 := Aside0.mk ((HB4.out.block _ (blk_lt HBE3.out)).trans HBE3.out)
  clear HBT3 HBC3 HBS3 HBR3 HBE3
  have HX := Aside0.mk (show Below w.heap.size w w4 from (((H0.out.1.trans (HB2.out.mono (by have := H0.out.2; omega))).trans (HB3.out.mono (by have := H0.out.2; have := HB2.out.size; omega))).trans (HB4.out.mono (by have := H0.out.2; have := HB2.out.size; have := HB3.out.size; omega))))
  have t0 : w4.cell? ⟨w.heap.size, 0, none⟩ = some (.string a0_0) := (blk_cell HBT4.out 0).trans rfl
  have t1 : w4.cell? ⟨w.heap.size, 1, none⟩ = some (.slice A0_1 l0_1.length c0_1) := (blk_cell HBT4.out 1).trans rfl
  have y0 : w4.cell? ⟨w.heap.size + 1, 0, none⟩ = some (.int .i64 a1_0) := (blk_cell HBC4.out 0).trans rfl
  have y1 : w4.cell? ⟨w.heap.size + 1, 1, none⟩ = some (.slice A1_1 l1_1.length c1_1) := (blk_cell HBC4.out 1).trans rfl
  have y2 : w4.cell? ⟨w.heap.size + 1, 2, none⟩ = some (.slice A1_2 l1_2.length c1_2) := (blk_cell HBC4.out 2).trans rfl
  have z0 : w4.cell? ⟨w.heap.size + 1 + 1, 0, none⟩ = some (.int .i64 a2_0) := (blk_cell HBS4.out 0).trans rfl
  have z1 : w4.cell? ⟨w.heap.size + 1 + 1, 1, none⟩ = some (.int .i64 a2_1) := (blk_cell HBS4.out 1).trans rfl
  have z2 : w4.cell? ⟨w.heap.size + 1 + 1, 2, none⟩ = some (.int .i64 a2_2) := (blk_cell HBS4.out 2).trans rfl
  have z3 : w4.cell? ⟨w.heap.size + 1 + 1, 3, none⟩ = some (.slice A2_3 l2_3.length c2_3) := (blk_cell HBS4.out 3).trans rfl
  have HU := Aside0.mk (bill_calls a0_0 A0_1 c0_1 l0_1 a1_0 A1_1 c1_1 l1_1 A1_2 c1_2 l1_2 a2_0 a2_1 a2_2 A2_3 c2_3 l2_3 w4 (Kd.C_below HR0.out HX.out) HC.out.1 (Kd.C_below HR1.out HX.out) HC.out.2.1 (Kd.C_below HR2.out HX.out) HC.out.2.2.1 (Kd.C_below HR3.out HX.out) HC.out.2.2.2 d1 d3)
  have HL := Aside0.mk HV.out
  rw [if_pos ⟨d1, d2, d3⟩] at HL
  clear d1 d2 d3 HBT4 HBC4 HBS4 HV HB3 HB4 HB2
  generalize billO a1_0 l1_1 l1_2 a2_0 a2_1 a2_2 l2_3 l0_1 = b at HU HL
  by_cases g : b.err = 0
  · rw [if_pos g] at HL
    have HU2 : Aside0 (Calls Try.prog 61 #[.agg #[.string a0_0, .slice A0_1 l0_1.length c0_1], .agg #[.int .i64 a1_0, .slice A1_1 l1_1.length c1_1, .slice A1_2 l1_2.length c1_2], .agg #[.int .i64 a2_0, .int .i64 a2_1, .int .i64 a2_2, .slice A2_3 l2_3.length c2_3]] w4 fun e w' => ∃ v : Value, e = .returned (.agg #[v, .int .i64 b.net, .int .i64 b.tax, .int .i64 b.total]) ∧ Kd.R k48 48 w' w4.heap.size (fun _ => True) v b.lines ∧ Below w4.heap.size w4 w') := ⟨HU.out.mono fun e w' h => by
      have h1 := h.1
      rw [if_pos g] at h1
      obtain ⟨v, a, c⟩ := h1
      exact ⟨v, a, c, h.2⟩⟩
    clear HU g
    go_wp2_with fail
    refine HU2.out.mono ?_
    rintro e w5 ⟨v, rfl, hR, hb5⟩
    have HB5 := Aside0.mk hb5
    obtain ⟨Av, cv, rfl, _, _⟩ := Kd.R_reads hR
    have HRv := Aside0.mk hR
    have er := (HB5.out.block _ (blk_lt HBR4.out)).trans HBR4.out
    have ee := (HB5.out.block _ (blk_lt HBE4.out)).trans HBE4.out
    clear hb5 hR t0 t1 y0 y1 y2 z0 z1 z2 z3
    have r0 : w5.cell? ⟨w.heap.size + 1 + 1 + 1, 0, none⟩ = some (.slice none 0 0) := (blk_cell er 0).trans rfl
    have r1 : w5.cell? ⟨w.heap.size + 1 + 1 + 1, 1, none⟩ = some (.int .i64 0) := (blk_cell er 1).trans rfl
    have r2 : w5.cell? ⟨w.heap.size + 1 + 1 + 1, 2, none⟩ = some (.int .i64 0) := (blk_cell er 2).trans rfl
    have r3 : w5.cell? ⟨w.heap.size + 1 + 1 + 1, 3, none⟩ = some (.int .i64 0) := (blk_cell er 3).trans rfl
    have g0 : w5.frozen? ⟨w.heap.size + 1 + 1 + 1, 0, none⟩ = false := blk_frozen er 0
    have g1 : w5.frozen? ⟨w.heap.size + 1 + 1 + 1, 1, none⟩ = false := blk_frozen er 1
    have g2 : w5.frozen? ⟨w.heap.size + 1 + 1 + 1, 2, none⟩ = false := blk_frozen er 2
    have g3 : w5.frozen? ⟨w.heap.size + 1 + 1 + 1, 3, none⟩ = false := blk_frozen er 3
    have e0 : w5.cell? ⟨w.heap.size + 1 + 1 + 1 + 1, 0, none⟩ = some (.int .i64 0) := (blk_cell ee 0).trans rfl
    have h0 : w5.frozen? ⟨w.heap.size + 1 + 1 + 1 + 1, 0, none⟩ = false := blk_frozen ee 0
    have c1 := blk_put er 0 (.slice Av b.lines.length cv) rfl
    have c2 := blk_put c1 1 (.int .i64 b.net) rfl
    have c3 := blk_put c2 2 (.int .i64 b.tax) rfl
    have c4 := blk_put c3 3 (.int .i64 b.total) rfl
    have c5 := blk_far (p := ⟨w.heap.size + 1 + 1 + 1 + 1, 0, none⟩) c4 (by simp) (.int .i64 0)
    have d1 := blk_far (p := ⟨w.heap.size + 1 + 1 + 1, 3, none⟩) (blk_far (p := ⟨w.heap.size + 1 + 1 + 1, 2, none⟩) (blk_far (p := ⟨w.heap.size + 1 + 1 + 1, 1, none⟩) (blk_far (p := ⟨w.heap.size + 1 + 1 + 1, 0, none⟩) ee (by simp) (.slice Av b.lines.length cv)) (by simp) (.int .i64 b.net)) (by simp) (.int .i64 b.tax)) (by simp) (.int .i64 b.total)
    have d2 := blk_put d1 0 (.int .i64 0) rfl
    have x0 := (blk_cell c5 0).trans rfl
    have x1 := (blk_cell c5 1).trans rfl
    have x2 := (blk_cell c5 2).trans rfl
    have x3 := (blk_cell c5 3).trans rfl
    have x4 := (blk_cell d2 0).trans rfl
    have B5 := (((((HX.out.trans (HB5.out.mono HX.out.size)).setCell (p := ⟨w.heap.size + 1 + 1 + 1, 0, none⟩) (by simp; omega) (.slice Av b.lines.length cv)).setCell (p := ⟨w.heap.size + 1 + 1 + 1, 1, none⟩) (by simp; omega) (.int .i64 b.net)).setCell (p := ⟨w.heap.size + 1 + 1 + 1, 2, none⟩) (by simp; omega) (.int .i64 b.tax)).setCell (p := ⟨w.heap.size + 1 + 1 + 1, 3, none⟩) (by simp; omega) (.int .i64 b.total)).setCell (p := ⟨w.heap.size + 1 + 1 + 1 + 1, 0, none⟩) (by simp; omega) (.int .i64 0)
    have R5 := Kd.R_set (Kd.R_set (Kd.R_set (Kd.R_set (Kd.R_set (Kd.R_lower HRv.out HX.out.size) er (by decide) 0 (.slice Av b.lines.length cv)) c1 (by decide) 1 (.int .i64 b.net)) c2 (by decide) 2 (.int .i64 b.tax)) c3 (by decide) 3 (.int .i64 b.total)) d1 (by decide) 0 (.int .i64 0)
    have HQ := Aside0.mk (And.intro x0 (And.intro x1 (And.intro x2 (And.intro x3 (And.intro x4 (And.intro B5 R5))))))
    clear er ee c1 c2 c3 c4 c5 d1 d2 x0 x1 x2 x3 x4 B5 R5
    go_wp2
    have HY := HQ.out
    clear r0 r1 r2 r3 g0 g1 g2 g3 e0 h0
    generalize ((((w5.setCell ⟨w.heap.size + 1 + 1 + 1, 0, none⟩ (.slice Av b.lines.length cv)).setCell ⟨w.heap.size + 1 + 1 + 1, 1, none⟩ (.int .i64 b.net)).setCell ⟨w.heap.size + 1 + 1 + 1, 2, none⟩ (.int .i64 b.tax)).setCell ⟨w.heap.size + 1 + 1 + 1, 3, none⟩ (.int .i64 b.total)).setCell ⟨w.heap.size + 1 + 1 + 1 + 1, 0, none⟩ (.int .i64 0) = Wf at HY ⊢
    obtain ⟨x0, x1, x2, x3, x4, B5, R5⟩ := HY
    refine leaves_cons (f := 60) (args := #[.pointer (some ⟨w.heap.size + 1 + 1 + 1 + 1, 0, none⟩)]) (by simp) (by simp [go_sem]) ?_
    refine (caught_idle ⟨w.heap.size + 1 + 1 + 1 + 1, 0, none⟩ _).mono ?_
    rintro e u' w'' ⟨rfl, rfl, rfl⟩
    refine leaves_cons (f := 59) (args := #[.pointer (some ⟨w.heap.size + 1 + 1 + 1 + 1, 0, none⟩), .pointer (some ⟨w.heap.size + 1 + 1 + 1, 0, none⟩)]) (by simp [settle]) (by simp [go_sem]) ?_
    refine (Bill1_ok ⟨w.heap.size + 1 + 1 + 1, 0, none⟩ ⟨w.heap.size + 1 + 1 + 1 + 1, 0, none⟩ _ x4).mono ?_
    rintro e u' w'' ⟨rfl, rfl, rfl⟩
    exact ⟨.tuple #[.agg #[(.slice Av b.lines.length cv), (.int .i64 b.net), (.int .i64 b.tax), (.int .i64 b.total)], .int .i64 0], by simp [results, Try.results27, go_sem, x0, x1, x2, x3, x4], by cases HL.out; exact ⟨_, rfl, R5, B5⟩⟩
  · rw [if_neg g] at HL
    have HU2 : Aside0 (Calls Try.prog 61 #[.agg #[.string a0_0, .slice A0_1 l0_1.length c0_1], .agg #[.int .i64 a1_0, .slice A1_1 l1_1.length c1_1, .slice A1_2 l1_2.length c1_2], .agg #[.int .i64 a2_0, .int .i64 a2_1, .int .i64 a2_2, .slice A2_3 l2_3.length c2_3]] w4 fun e w' => e = .panicked (errP b.err) ∧ Below w4.heap.size w4 w') := ⟨HU.out.mono fun e w' h => by
      have h1 := h.1
      rw [if_neg g] at h1
      exact ⟨h1, h.2⟩⟩
    have HG := Aside0.mk g
    clear HU g
    go_wp2_with fail
    refine HU2.out.mono ?_
    rintro e w5 ⟨rfl, hb5⟩
    have HB5 := Aside0.mk hb5
    have er := (HB5.out.block _ (blk_lt HBR4.out)).trans HBR4.out
    have ee := (HB5.out.block _ (blk_lt HBE4.out)).trans HBE4.out
    clear hb5 t0 t1 y0 y1 y2 z0 z1 z2 z3
    have e0 : w5.cell? ⟨w.heap.size + 1 + 1 + 1 + 1, 0, none⟩ = some (.int .i64 0) := (blk_cell ee 0).trans rfl
    have h0 : w5.frozen? ⟨w.heap.size + 1 + 1 + 1 + 1, 0, none⟩ = false := blk_frozen ee 0
    have c0 := blk_far (p := ⟨w.heap.size + 1 + 1 + 1 + 1, 0, none⟩) er (by simp) (.int .i64 b.err)
    have d0 := blk_put ee 0 (.int .i64 b.err) rfl
    have c1 := blk_put c0 0 (.slice none 0 0) rfl
    have c2 := blk_put c1 1 (.int .i64 0) rfl
    have c3 := blk_put c2 2 (.int .i64 0) rfl
    have c4 := blk_put c3 3 (.int .i64 0) rfl
    have d1 := blk_far (p := ⟨w.heap.size + 1 + 1 + 1, 3, none⟩) (blk_far (p := ⟨w.heap.size + 1 + 1 + 1, 2, none⟩) (blk_far (p := ⟨w.heap.size + 1 + 1 + 1, 1, none⟩) (blk_far (p := ⟨w.heap.size + 1 + 1 + 1, 0, none⟩) d0 (by simp) (.slice none 0 0)) (by simp) (.int .i64 0)) (by simp) (.int .i64 0)) (by simp) (.int .i64 0)
    have x0 := (blk_cell c4 0).trans rfl
    have x1 := (blk_cell c4 1).trans rfl
    have x2 := (blk_cell c4 2).trans rfl
    have x3 := (blk_cell c4 3).trans rfl
    have x4 := (blk_cell d1 0).trans rfl
    have B5 := (((((HX.out.trans (HB5.out.mono HX.out.size)).setCell (p := ⟨w.heap.size + 1 + 1 + 1 + 1, 0, none⟩) (by simp; omega) (.int .i64 b.err)).setCell (p := ⟨w.heap.size + 1 + 1 + 1, 0, none⟩) (by simp; omega) (.slice none 0 0)).setCell (p := ⟨w.heap.size + 1 + 1 + 1, 1, none⟩) (by simp; omega) (.int .i64 0)).setCell (p := ⟨w.heap.size + 1 + 1 + 1, 2, none⟩) (by simp; omega) (.int .i64 0)).setCell (p := ⟨w.heap.size + 1 + 1 + 1, 3, none⟩) (by simp; omega) (.int .i64 0)
    have HQ := Aside0.mk (And.intro x0 (And.intro x1 (And.intro x2 (And.intro x3 (And.intro x4 B5)))))
    have HCD := Aside0.mk (And.intro c0 d0)
    clear er ee c0 d0 c1 c2 c3 c4 d1 x0 x1 x2 x3 x4 B5
    go_wp2
    have HY := HQ.out
    refine leaves_cons (f := 60) (args := #[.pointer (some ⟨w.heap.size + 1 + 1 + 1 + 1, 0, none⟩)]) (by simp) (by simp [go_sem]) ?_
    refine (caught_panicking ⟨w.heap.size + 1 + 1 + 1 + 1, 0, none⟩ 0 b.err [] _ e0 h0).mono ?_
    rintro e u' w'' ⟨rfl, rfl, rfl⟩
    refine leaves_cons (f := 59) (args := #[.pointer (some ⟨w.heap.size + 1 + 1 + 1 + 1, 0, none⟩), .pointer (some ⟨w.heap.size + 1 + 1 + 1, 0, none⟩)]) (by simp [settle]) (by simp [go_sem]) ?_
    refine (Bill1_bad (w.heap.size + 1 + 1 + 1) ⟨w.heap.size + 1 + 1 + 1 + 1, 0, none⟩ b.err _ _ _ _ _ HG.out ((blk_cell HCD.out.2 0).trans rfl) ((blk_cell HCD.out.1 0).trans rfl) ((blk_cell HCD.out.1 1).trans rfl) ((blk_cell HCD.out.1 2).trans rfl) ((blk_cell HCD.out.1 3).trans rfl) (blk_frozen HCD.out.1 0) (blk_frozen HCD.out.1 1) (blk_frozen HCD.out.1 2) (blk_frozen HCD.out.1 3)).mono ?_
    rintro e u' w'' ⟨rfl, rfl, rfl⟩
    clear e0 h0
    generalize ((((w5.setCell ⟨w.heap.size + 1 + 1 + 1 + 1, 0, none⟩ (.int .i64 b.err)).setCell ⟨w.heap.size + 1 + 1 + 1, 0, none⟩ (.slice none 0 0)).setCell ⟨w.heap.size + 1 + 1 + 1, 1, none⟩ (.int .i64 0)).setCell ⟨w.heap.size + 1 + 1 + 1, 2, none⟩ (.int .i64 0)).setCell ⟨w.heap.size + 1 + 1 + 1, 3, none⟩ (.int .i64 0) = Wf at HY ⊢
    obtain ⟨x0, x1, x2, x3, x4, B5⟩ := HY
    exact ⟨.tuple #[.agg #[.slice none 0 0, .int .i64 0, .int .i64 0, .int .i64 0], .int .i64 b.err], by simp [results, Try.results27, go_sem, x0, x1, x2, x3, x4], bout_bad HL.out.symm rfl B5⟩
theorem bill_Bill.calls (a0_0 : ByteArray) (A0_1 : Option Addr) (c0_1 : Nat) (l0_1 : List S26) (a1_0 : Int) (A1_1 : Option Addr) (c1_1 : Nat) (l1_1 : List S99) (A1_2 : Option Addr) (c1_2 : Nat) (l1_2 : List Int) (a2_0 a2_1 a2_2 : Int) (A2_3 : Option Addr) (c2_3 : Nat) (l2_3 : List S50) (r1 : List S48) (r2 r3 r4 r5 : Int) (w : World)
    (hr0_1 : Kd.C k26 w A0_1 l0_1.length l0_1) (hc0_1 : l0_1.length ≤ c0_1) (hr1_1 : Kd.C k99 w A1_1 l1_1.length l1_1) (hc1_1 : l1_1.length ≤ c1_1) (hr1_2 : Kd.C (Kd.int .i64) w A1_2 l1_2.length l1_2) (hc1_2 : l1_2.length ≤ c1_2) (hr2_3 : Kd.C k50 w A2_3 l2_3.length l2_3) (hc2_3 : l2_3.length ≤ c2_3)
    (h : bill_Bill.f a0_0 l0_1 a1_0 l1_1 l1_2 a2_0 a2_1 a2_2 l2_3 = some (r1, r2, r3, r4, r5)) :
    Calls Try.prog 27 #[.agg #[.string a0_0, .slice A0_1 l0_1.length c0_1], .agg #[.int .i64 a1_0, .slice A1_1 l1_1.length c1_1, .slice A1_2 l1_2.length c1_2], .agg #[.int .i64 a2_0, .int .i64 a2_1, .int .i64 a2_2, .slice A2_3 l2_3.length c2_3]] w fun e w' => ∃ v0_ : Value, e = .returned (.tuple #[.agg #[v0_, .int .i64 r2, .int .i64 r3, .int .i64 r4], .int .i64 r5]) ∧ Kd.R k48 48 w' w.heap.size (fun _ => True) v0_ r1 ∧ Below w.heap.size w w' :=
  bill_Bill.calls0 a0_0 A0_1 c0_1 l0_1 a1_0 A1_1 c1_1 l1_1 A1_2 c1_2 l1_2 a2_0 a2_1 a2_2 A2_3 c2_3 l2_3 r1 r2 r3 r4 r5 w hr0_1 hc0_1 hr1_1 hc1_1 hr1_2 hc1_2 hr2_3 hc2_3 h
end Go.Proofs.Ytbkkgaiokmnmgaa.Pr
