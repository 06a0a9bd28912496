/- Package bill over this program: must and caught. -/
import Derived.Test.YtbkkgaiokmnmgaaHMoney
import Derived.Test.YtbkkgaiokmnmgaaPrx4
import Derived.RangeFuncKeeps
import Derived.RangeFuncBound
import Derived.RangeFuncCalls
import Derived.RangeFuncLeaves
import Derived.Shelf.Abstract
import Derived.Shelf.RegionOpen
import Derived.WalkKit
import Derived.OwnWalkIn
import Derived.TacticsInMore
import Derived.LoopNIn
import Derived.LoopIn
import Derived.BigRegionIn
import Derived.Stop.RegionWithIn
import Derived.RangeFuncNested
import Derived.Test.YtbkkgaiokmnmgaaHName
import Derived.Test.YtbkkgaiokmnmgaaHDaysL
import Derived.Test.YtbkkgaiokmnmgaaPrx3
import Derived.Test.YtbkkgaiokmnmgaaPrx6
import Derived.Test.YtbkkgaiokmnmgaaPrx5
/- Package bill over this program: must and caught. -/
namespace Go.Proofs.Ytbkkgaiokmnmgaa.Pr
open Go.RowKit Go.Proofs.YtbkkgaiokmnmgaaW.PrintWords Go.Proofs.YtbkkgaiokmnmgaaW.PrintLast Go.Proofs.YtbkkgaiokmnmgaaW.PrintMore
set_option linter.unusedVariables false
set_option linter.unusedSimpArgs false
theorem must_ok (n : Int) (w : World) (h1 : n ≤ 1000000000) : Calls Try.prog 97 #[.int .i64 n, .int .i64 0] w fun e w' => e = .returned (.int .i64 n) ∧ w' = w := by
  have d1 : decide (1000000000 < n) = false := decide_eq_false (by omega)
  clear h1
  go_enter Try.func97, Try.ntmps97
  go_wp2
  go_ret
  exact ⟨rfl, rfl⟩
theorem must_over (n : Int) (w : World) (h1 : 1000000000 < n) : Calls Try.prog 97 #[.int .i64 n, .int .i64 0] w fun e w' => e = .panicked (errP 3) ∧ w' = w := by
  have d1 : decide (1000000000 < n) = true := decide_eq_true (by omega)
  clear h1
  go_enter Try.func97, Try.ntmps97
  go_wp2
  exact ⟨rfl, rfl, rfl⟩
theorem must_bad (n c : Int) (w : World) (h1 : c ≠ 0) : Calls Try.prog 97 #[.int .i64 n, .int .i64 c] w fun e w' => e = .panicked (errP c) ∧ w' = w := by
  have b0 : (c == 0) = false := beq_eq_false_iff_ne.mpr h1
  have b1 : (c != 0) = true := bne_iff_ne.mpr h1
  have b2 : ¬ c = 0 := h1
  have b3 : decide (c = 0) = false := decide_eq_false h1
  clear h1
  go_enter Try.func97, Try.ntmps97
  go_wp2
  exact ⟨rfl, rfl, rfl⟩
/-- A panic value is an error of package api. -/
@[go_sem] theorem as_errno1 (v : Value) (w : World) : (Instr.typeAssert (.iface 39 v) 20 39 false).run Try.prog w = .ok v w := by kernel_rfl
set_option maxRecDepth 100000 in
theorem caught_panicking (q : Addr) (y c : Int) (older : List PanicEntry) (w : World) (hq : w.cell? q = some (.int .i64 y)) (hqf : w.frozen? q = false) :
    CallsD Try.prog 60 #[.pointer (some q)] (.panicking ({ v := .iface 39 (.int .i64 c), recovered := false } :: older)) w fun e u' w' =>
      e = .returned (.tuple #[]) ∧ u' = .panicking ({ v := .iface 39 (.int .i64 c), recovered := true } :: older) ∧ w' = w.setCell q (.int .i64 c) := by
  refine callsD_of_wpS Try.func60 rfl fun c₀ cs hu => ?_
  apply wpS_seq
  apply wpS_region
  simp [wpOpsS, go_sem, recoverD, hu, Try.ntmps60, Exit.thenS]
  rw [show (#[Value.pointer (some q)] ++ ((Array.replicate 9 undef).setIfInBounds 2 (.iface 39 (.int .i64 c))).setIfInBounds 1 (.iface 39 (.int .i64 c)) : Array Value) = #[.pointer (some q), undef, .iface 39 (.int .i64 c), .iface 39 (.int .i64 c), undef, undef, undef, undef, undef, undef] from by kernel_rfl]
  refine wpS_of_wp ?_
  go_wp2
  cases c₀
  simp_all [bodyPostS, results, Try.results60]
set_option maxRecDepth 100000 in
theorem caught_idle (q : Addr) (w : World) :
    CallsD Try.prog 60 #[.pointer (some q)] .returning w fun e u' w' => e = .returned (.tuple #[]) ∧ u' = .returning ∧ w' = w := by
  refine callsD_of_wpS Try.func60 rfl fun c₀ cs hu => ?_
  apply wpS_seq
  apply wpS_region
  simp [wpOpsS, go_sem, recoverD, hu, Try.ntmps60, Exit.thenS]
  rw [show (#[Value.pointer (some q)] ++ ((Array.replicate 9 undef).setIfInBounds 2 (.nilIface)).setIfInBounds 1 (.nilIface) : Array Value) = #[.pointer (some q), undef, .nilIface, .nilIface, undef, undef, undef, undef, undef, undef] from by kernel_rfl]
  refine wpS_of_wp ?_
  go_wp2
  cases c₀
  simp_all [bodyPostS, results, Try.results60]
end Go.Proofs.Ytbkkgaiokmnmgaa.Pr
/- Package bill over this program: the minutes in which an article applies, what a line costs. -/
namespace Go.Proofs.Ytbkkgaiokmnmgaa.Pr
open Go.RowKit Go.Proofs.YtbkkgaiokmnmgaaW.PrintWords Go.Proofs.YtbkkgaiokmnmgaaW.PrintLast Go.Proofs.YtbkkgaiokmnmgaaW.PrintMore
set_option linter.unusedVariables false
set_option linter.unusedSimpArgs false
set_option maxHeartbeats 1000000 in
theorem applies_in (n : Nat) (cs : Array Value) (a b : Int) (w : World) :
    CallsIn Fence.wide n Try.prog 125 #[.agg cs, .int .i64 a, .int .i64 b] w fun e w' => e = .returned (.func (.func 134) #[] #[.pointer (some ⟨w.heap.size + 1, 0, none⟩), .pointer (some ⟨w.heap.size + 1 + 1, 0, none⟩), .pointer (some ⟨w.heap.size, 0, none⟩)]) ∧ w' = ((w.alloc (.cells cs 92)).alloc (.cells #[.int .i64 a] 3)).alloc (.cells #[.int .i64 b] 3) := by
  refine callsIn_of_wp Try.func125 rfl trivial ?_ rfl
  simp only [Try.ntmps125, List.size_toArray, List.length_cons, List.length_nil, Nat.reduceAdd, Nat.reduceSub, Array.replicate_succ, Array.replicate_zero, List.push_toArray, List.append_toArray, List.nil_append, List.cons_append]
  gi_wp2
  go_ret
  exact ⟨rfl, rfl⟩
/-- The minutes of a span in which a test says yes. -/
def mins (p : Int → Bool) (f : Int) (k : Nat) : List Int := ((List.range k).map (fun i : Nat => f + (i : Int))).filter p
theorem mins_succ (p : Int → Bool) (f : Int) (k : Nat) : mins p f (k + 1) = if p (f + k) then mins p f k ++ [f + k] else mins p f k := by
  unfold mins
  rw [List.range_succ, List.map_append, List.filter_append, List.map_cons, List.map_nil, List.filter_cons, List.filter_nil]
  split <;> simp_all
/-- What a round keeps: what lay, and the iterator's boxes. -/
def KpX (n₀ Bx Bt : Nat) (W W' : World) : Prop := Below n₀ W W' ∧ W'.heap[Bx]? = W.heap[Bx]? ∧ W'.heap[Bt]? = W.heap[Bt]?
theorem KpX_t {n₀ Bx Bt : Nat} {A B C : World} (h : KpX n₀ Bx Bt A B) (k : KpX n₀ Bx Bt B C) : KpX n₀ Bx Bt A C := ⟨h.1.trans k.1, k.2.1.trans h.2.1, k.2.2.trans h.2.2⟩
theorem KpX_b {n₀ Bx Bt : Nat} {w : World} (hn : n₀ ≤ w.heap.size) (hx : Bx < w.heap.size) (hb : Bt < w.heap.size) (W : World) (l : Nat) (o o' : Obj) (hl : w.heap.size ≤ l) (h : W.heap[l]? = some o) (h1 : o.isCells = false) (h2 : o.isWalk = false) : KpX n₀ Bx Bt W (W.putObj l o') :=
  ⟨belowK_b hn W l o o' hl h h1 h2, World.putObj_heap_other (by omega), World.putObj_heap_other (by omega)⟩
/-- The cells of an item. -/
def itemC (a0 a1 a2 a3 a4 a5 a6 b0 : Int) (v1 v2 : Value) (s0 s1 s2 : Int) (v3 : Value) : Array Value := #[.int .i64 a0, .int .i64 a1, .int .i64 a2, .int .i64 a3, .int .i64 a4, .int .i64 a5, .int .i64 a6, .int .i64 b0, v1, v2, .int .i64 s0, .int .i64 s1, .int .i64 s2, v3]
set_option maxRecDepth 1000000 in
set_option maxHeartbeats 4000000 in
theorem applies1_in (n : Nat) (hn : 1 ≤ n) (lp Bf Bt Bx : Nat) (q : Nat) (a0 a1 a2 a3 a4 a5 a6 b0 s0 s1 s2 : Int) (A1 : Option Addr) (c1 : Nat) (l1 : List S99) (A2 : Option Addr) (c2 : Nat) (l2 : List Int) (v3 : Value) (f : Int) (t : Nat) (p : Int → Bool) (w0 : World)
    (hr1 : Kd.C k99 w0 A1 l1.length l1) (hc1 : l1.length ≤ c1) (hr2 : Kd.C (Kd.int .i64) w0 A2 l2.length l2) (hc2 : l2.length ≤ c2)
    (hf : -4611686018427387904 ≤ f) (ht : f + t ≤ 4611686018427387904)
    (hp : ∀ k : Nat, k < t → tariff_Applies.f q a0 a1 a2 a3 a4 a5 a6 b0 l1 l2 (f + k) = some (p (f + k))) (J Jx : List Int → World → Prop)
    (W : World) (hJ : AbidesFrom W.heap.size J) (hB0 : Below w0.heap.size w0 W)
    (hY : ∀ (k : Nat) W1, k < t → p (f + k) = true → J (mins p f k) W1 → YieldAt Fence.wide (n - 1) Try.prog lp #[.int .i64 (f + k)] W1 fun e W' =>
      (e = .returned (.bool true) ∧ J (mins p f (k + 1)) W' ∧ KpX w0.heap.size Bx Bt W1 W') ∨ (e = .returned (.bool false) ∧ Jx (mins p f (k + 1)) W'))
    (hBf : W.heap[Bf]? = some (.cells #[.int .i64 f] 3 (0, 0))) (hBt : W.heap[Bt]? = some (.cells #[.int .i64 (f + t)] 3 (0, 0)))
    (hBx : W.heap[Bx]? = some (.cells (itemC a0 a1 a2 a3 a4 a5 a6 b0 (.slice A1 l1.length c1) (.slice A2 l2.length c2) s0 s1 s2 v3) 92 (0, 0))) (h0 : J [] W) :
    CallsIn Fence.wide n Try.prog 134 #[.func (.yield lp) #[] #[], .pointer (some ⟨Bf, 0, none⟩), .pointer (some ⟨Bt, 0, none⟩), .pointer (some ⟨Bx, 0, none⟩)] W fun e W' => (∃ v, e = .returned v) ∧
      (J (mins p f t) W' ∨ (∃ k, k < t ∧ p (f + k) = true ∧ Jx (mins p f (k + 1)) W')) := by
  have HR1 := Aside0.mk hr1
  have HR2 := Aside0.mk hr2
  have HP := Aside0.mk hp
  have HY := Aside0.mk hY
  have HJ := Aside0.mk hJ
  have HBf := Aside0.mk hBf
  have HBt := Aside0.mk hBt
  have HBx := Aside0.mk hBx
  have HB0 := Aside0.mk hB0
  have HC := Aside0.mk (And.intro hc1 hc2)
  have HF := Aside0.mk (And.intro hf ht)
  have HBl : Aside0 (Bt < W.heap.size ∧ Bx < W.heap.size) := ⟨⟨(Array.getElem?_eq_some_iff.1 HBt.out).1, (Array.getElem?_eq_some_iff.1 HBx.out).1⟩⟩
  have hbf : W.cell? ⟨Bf, 0, none⟩ = some (.int .i64 f) := (blk_cell hBf 0).trans rfl
  have hfn : ∀ f, Fence.wide.fn f := fun _ => trivial
  clear hr1 hr2 hp hY hJ hBf hBt hBx hB0 hc1 hc2 hf ht
  refine callsIn_of_wp Try.func134 rfl trivial ?_ rfl
  simp only [Try.ntmps134, List.size_toArray, List.length_cons, List.length_nil, Nat.reduceAdd, Nat.reduceSub, Array.replicate_succ, Array.replicate_zero, List.push_toArray, List.append_toArray, List.nil_append, List.cons_append]
  gi_wp2
  gi_loopw [5] (fun i wr => ∃ k : Nat, i = .int .i64 (f + k) ∧ k ≤ t ∧ Aside0 (J (mins p f k) wr ∧ Below w0.heap.size w0 wr ∧ wr.heap[Bt]? = W.heap[Bt]? ∧ wr.heap[Bx]? = W.heap[Bx]? ∧ W.heap.size ≤ wr.heap.size))
    (fun i _ => (f + t - intOf i).toNat)
  case atStart => exact ⟨0, by simp, Nat.zero_le _, ⟨h0, HB0.out, rfl, rfl, Nat.le_refl _⟩⟩
  case round =>
    clear hbf
    obtain ⟨k, rfl, hk, HI⟩ := hrel
    have hbt : wr.cell? ⟨Bt, 0, none⟩ = some (.int .i64 (f + t)) := (blk_cell (HI.out.2.2.1.trans HBt.out) 0).trans rfl
    by_cases hlt : k < t
    · have d0 : decide (f + (k : Int) < f + t) = true := decide_eq_true (by omega)
      have HA : Aside0 (∃ cs, cs = itemC a0 a1 a2 a3 a4 a5 a6 b0 (.slice A1 l1.length c1) (.slice A2 l2.length c2) s0 s1 s2 v3) := ⟨_, rfl⟩
      have hx := HI.out.2.2.2.1.trans HBx.out
      have x0 : wr.cell? ⟨Bx, 0, none⟩ = some (.int .i64 a0) := (blk_cell hx 0).trans rfl
      have x1 : wr.cell? ⟨Bx, 1, none⟩ = some (.int .i64 a1) := (blk_cell hx 1).trans rfl
      have x2 : wr.cell? ⟨Bx, 2, none⟩ = some (.int .i64 a2) := (blk_cell hx 2).trans rfl
      have x3 : wr.cell? ⟨Bx, 3, none⟩ = some (.int .i64 a3) := (blk_cell hx 3).trans rfl
      have x4 : wr.cell? ⟨Bx, 4, none⟩ = some (.int .i64 a4) := (blk_cell hx 4).trans rfl
      have x5 : wr.cell? ⟨Bx, 5, none⟩ = some (.int .i64 a5) := (blk_cell hx 5).trans rfl
      have x6 : wr.cell? ⟨Bx, 6, none⟩ = some (.int .i64 a6) := (blk_cell hx 6).trans rfl
      have x7 : wr.cell? ⟨Bx, 7, none⟩ = some (.int .i64 b0) := (blk_cell hx 7).trans rfl
      have x8 : wr.cell? ⟨Bx, 8, none⟩ = some (.slice A1 l1.length c1) := (blk_cell hx 8).trans rfl
      have x9 : wr.cell? ⟨Bx, 9, none⟩ = some (.slice A2 l2.length c2) := (blk_cell hx 9).trans rfl
      clear hx
      cases hpk : p (f + k) with
      | false =>
        have HV := Aside0.mk (HP.out k hlt)
        rw [hpk] at HV
        gi_wp2_with (gi_at_call 38; refine (callsIn_wide.2 (tariff_Applies.calls q _ _ _ _ _ _ _ _ _ _ l1 _ _ l2 _ false _ (by exact Kd.C_below HR1.out HI.out.2.1) (by exact HC.out.1) (by exact Kd.C_below HR2.out HI.out.2.1) (by exact HC.out.2) (by exact HV.out))).mono ?_; rintro e w2 ⟨rfl, hb2⟩; have HB2 := Aside0.mk hb2; clear hb2)
        have hw : wrap64 (f + (k : Int) + 1) = f + ((k + 1 : Nat) : Int) := by have := HF.out; simp only [wrap64]; omega
        have hm : mins p f (k + 1) = mins p f k := by rw [mins_succ, hpk]; rfl
        refine ⟨⟨k + 1, by rw [hw], by omega, ⟨?_, HI.out.2.1.trans (HB2.out.mono (by have := HB0.out.size; have := HI.out.2.2.2.2; omega)), (HB2.out.block Bt (by have := HBl.out; have := HI.out.2.2.2.2; omega)).trans HI.out.2.2.1, (HB2.out.block Bx (by have := HBl.out; have := HI.out.2.2.2.2; omega)).trans HI.out.2.2.2.1, Nat.le_trans HI.out.2.2.2.2 HB2.out.size⟩⟩, by rw [hw]; simp only [intOf]; omega⟩
        rw [hm]
        exact HJ.out _ _ _ none HI.out.1 (grown_of_below HB2.out none) (fun r e => by cases e)
      | true =>
        have HV := Aside0.mk (HP.out k hlt)
        rw [hpk] at HV
        have HLT := Aside0.mk hlt
        have HPK := Aside0.mk hpk
        have hw : wrap64 (f + (k : Int) + 1) = f + ((k + 1 : Nat) : Int) := by have := HF.out; simp only [wrap64]; omega
        gi_wp2_with (gi_at_call 38; refine (callsIn_wide.2 (tariff_Applies.calls q _ _ _ _ _ _ _ _ _ _ l1 _ _ l2 _ true _ (by exact Kd.C_below HR1.out HI.out.2.1) (by exact HC.out.1) (by exact Kd.C_below HR2.out HI.out.2.1) (by exact HC.out.2) (by exact HV.out))).mono ?_; rintro e w2 ⟨rfl, hb2⟩; have HB2 := Aside0.mk hb2; obtain ⟨fn, tmps, assign, body, hy, hR⟩ := HY.out k w2 HLT.out HPK.out (HJ.out _ _ _ none HI.out.1 (grown_of_below hb2 none) (fun r e => by cases e)); clear hb2)
        try go_simp
        refine hR.mono ?_
        rintro e W3 (⟨rfl, hJ3, hk3⟩ | ⟨rfl, hJx3⟩)
        · have HJ3 := Aside0.mk hJ3
          have HK3 := Aside0.mk hk3
          clear hJ3 hk3
          gi_wp2
          refine ⟨⟨k + 1, by rw [hw], by omega, ⟨HJ3.out, (HI.out.2.1.trans (HB2.out.mono (by have := HB0.out.size; have := HI.out.2.2.2.2; omega))).trans HK3.out.1, (HK3.out.2.2.trans (HB2.out.block Bt (by have := HBl.out; have := HI.out.2.2.2.2; omega))).trans HI.out.2.2.1, (HK3.out.2.1.trans (HB2.out.block Bx (by have := HBl.out; have := HI.out.2.2.2.2; omega))).trans HI.out.2.2.2.1, ?_⟩⟩, by rw [hw]; simp only [intOf]; omega⟩
          have := HI.out.2.2.2.2; have := HB2.out.size; have := HK3.out.1.size; omega
        · have HJx3 := Aside0.mk hJx3
          clear hJx3
          gi_wp2
          refine bodyPost_ret (results_none rfl _ _ _) rfl ?_
          exact ⟨⟨_, rfl⟩, .inr ⟨k, HLT.out, HPK.out, HJx3.out⟩⟩
    · have d0 : decide (f + (k : Int) < f + t) = false := decide_eq_false (by omega)
      obtain rfl : k = t := by omega
      gi_wp2
      refine bodyPost_end (results_none rfl _ _ _) rfl ?_
      exact ⟨⟨_, rfl⟩, .inl HI.out.1⟩
theorem mins_length (p : Int → Bool) (f : Int) (k : Nat) : (mins p f k).length ≤ k := by
  unfold mins
  exact Nat.le_trans (List.length_filter_le _ _) (by simp)
theorem applies_stops (n : Nat) (hn : 1 ≤ n) (Bf Bt Bx : Nat) (q : Nat) (a0 a1 a2 a3 a4 a5 a6 b0 s0 s1 s2 : Int) (A1 : Option Addr) (c1 : Nat) (l1 : List S99) (A2 : Option Addr) (c2 : Nat) (l2 : List Int) (v3 : Value) (f : Int) (t : Nat) (p : Int → Bool) (w0 w : World)
    (hr1 : Kd.C k99 w0 A1 l1.length l1) (hc1 : l1.length ≤ c1) (hr2 : Kd.C (Kd.int .i64) w0 A2 l2.length l2) (hc2 : l2.length ≤ c2)
    (hf : -4611686018427387904 ≤ f) (ht : f + t ≤ 4611686018427387904)
    (hp : ∀ k : Nat, k < t → tariff_Applies.f q a0 a1 a2 a3 a4 a5 a6 b0 l1 l2 (f + k) = some (p (f + k))) (h0 : Below w0.heap.size w0 w)
    (hBf : w.heap[Bf]? = some (.cells #[.int .i64 f] 3 (0, 0))) (hBt : w.heap[Bt]? = some (.cells #[.int .i64 (f + t)] 3 (0, 0)))
    (hBx : w.heap[Bx]? = some (.cells (itemC a0 a1 a2 a3 a4 a5 a6 b0 (.slice A1 l1.length c1) (.slice A2 l2.length c2) s0 s1 s2 v3) 92 (0, 0))) :
    SeqStopsK Fence.wide n Try.prog 134 #[.pointer (some ⟨Bf, 0, none⟩), .pointer (some ⟨Bt, 0, none⟩), .pointer (some ⟨Bx, 0, none⟩)] (fun x : Int => #[.int .i64 x]) (KpX w0.heap.size Bx Bt)
      (fun ys => ys = mins p f t) (fun pre => ∃ k, k < t ∧ p (f + k) = true ∧ pre = mins p f (k + 1)) t w := fun l J Jx W hW hJ hJx hY hj => by
  have up : ∀ {B : Nat} {o : Obj}, w.heap[B]? = some o → W.heap[B]? = some o := fun {B o} h => (hW.block B (Array.getElem?_eq_some_iff.1 h).1).trans h
  refine (applies1_in n hn l Bf Bt Bx q a0 a1 a2 a3 a4 a5 a6 b0 s0 s1 s2 A1 c1 l1 A2 c2 l2 v3 f t p w0 hr1 hc1 hr2 hc2 hf ht hp J Jx W hJ (h0.trans (hW.mono h0.size)) (fun k W1 hk hpk hj1 => ?_) (up hBf) (up hBt) (up hBx) hj).mono ?_
  · have hs : mins p f (k + 1) = mins p f k ++ [f + k] := by rw [mins_succ, if_pos hpk]
    rw [hs]
    exact hY (mins p f k) (f + k) W1 hj1 (Nat.lt_of_le_of_lt (mins_length p f k) hk)
  · rintro e W' ⟨he, h | ⟨k, hk, hpk, h⟩⟩
    · exact ⟨he, .inl ⟨_, rfl, h⟩⟩
    · exact ⟨he, .inr ⟨_, ⟨k, hk, hpk, rfl⟩, h⟩⟩
end Go.Proofs.Ytbkkgaiokmnmgaa.Pr
/- Package bill over this program: what the deferred closure of Bill does. -/
namespace Go.Proofs.Ytbkkgaiokmnmgaa.Pr
open Go.RowKit Go.Proofs.YtbkkgaiokmnmgaaW.PrintWords Go.Proofs.YtbkkgaiokmnmgaaW.PrintLast Go.Proofs.YtbkkgaiokmnmgaaW.PrintMore
set_option linter.unusedVariables false
set_option linter.unusedSimpArgs false
theorem Bill1_ok (p q : Addr) (w : World) (hq : w.cell? q = some (.int .i64 0)) :
    CallsD Try.prog 59 #[.pointer (some q), .pointer (some p)] .returning w fun e u' w' => u' = .returning ∧ (e = .returned (.tuple #[]) ∧ w' = w) := by
  refine (callsD_of_wp (R := fun e w' => e = .returned (.tuple #[]) ∧ w' = w) Try.func59 rfl ?_)
  simp only [Try.ntmps59, List.size_toArray, List.length_cons, List.length_nil, Nat.reduceAdd, Nat.reduceSub, Array.replicate_succ, Array.replicate_zero, List.push_toArray, List.append_toArray, List.nil_append, List.cons_append]
  go_wp2
  go_end0
  exact ⟨rfl, rfl⟩
theorem Bill1_bad (B : Nat) (q : Addr) (c : Int) (v0 v1 v2 v3 : Value) (w : World) (hc : c ≠ 0) (hq : w.cell? q = some (.int .i64 c))
    (h0 : w.cell? ⟨B, 0, none⟩ = some v0) (h1 : w.cell? ⟨B, 1, none⟩ = some v1) (h2 : w.cell? ⟨B, 2, none⟩ = some v2) (h3 : w.cell? ⟨B, 3, none⟩ = some v3)
    (f0 : w.frozen? ⟨B, 0, none⟩ = false) (f1 : w.frozen? ⟨B, 1, none⟩ = false) (f2 : w.frozen? ⟨B, 2, none⟩ = false) (f3 : w.frozen? ⟨B, 3, none⟩ = false) :
    CallsD Try.prog 59 #[.pointer (some q), .pointer (some ⟨B, 0, none⟩)] .returning w fun e u' w' => u' = .returning ∧ (e = .returned (.tuple #[]) ∧ w' = (((w.setCell ⟨B, 0, none⟩ (.slice none 0 0)).setCell ⟨B, 1, none⟩ (.int .i64 0)).setCell ⟨B, 2, none⟩ (.int .i64 0)).setCell ⟨B, 3, none⟩ (.int .i64 0)) := by
  have b0 : (c == 0) = false := beq_eq_false_iff_ne.mpr hc
  have b1 : (c != 0) = true := bne_iff_ne.mpr hc
  clear hc
  refine (callsD_of_wp (R := fun e w' => e = .returned (.tuple #[]) ∧ w' = (((w.setCell ⟨B, 0, none⟩ (.slice none 0 0)).setCell ⟨B, 1, none⟩ (.int .i64 0)).setCell ⟨B, 2, none⟩ (.int .i64 0)).setCell ⟨B, 3, none⟩ (.int .i64 0)) Try.func59 rfl ?_)
  simp only [Try.ntmps59, List.size_toArray, List.length_cons, List.length_nil, Nat.reduceAdd, Nat.reduceSub, Array.replicate_succ, Array.replicate_zero, List.push_toArray, List.append_toArray, List.nil_append, List.cons_append]
  go_wp2
  go_end0
  exact ⟨rfl, rfl⟩
end Go.Proofs.Ytbkkgaiokmnmgaa.Pr
/- Package bill over this program: units. -/
namespace Go.Proofs.Ytbkkgaiokmnmgaa.Pr
open Go.RowKit Go.Proofs.YtbkkgaiokmnmgaaW.PrintWords Go.Proofs.YtbkkgaiokmnmgaaW.PrintLast Go.Proofs.YtbkkgaiokmnmgaaW.PrintMore
set_option linter.unusedVariables false
set_option linter.unusedSimpArgs false
attribute [local go_sem] Oper.semAt_some
theorem cells_own {β : Type} (B : Nat) (cs : Array Value) (t : TypeId) : Own (fun (_ : β) W => W.heap[B]? = some (.cells cs t (0, 0))) := fun s A C row hs hg hr =>
  (hg.block B (Array.getElem?_eq_some_iff.1 hs).1 (fun e => by obtain ⟨o, ho, hc⟩ := hr B e.symm; rw [hs] at ho; cases ho; cases hc)).trans hs
theorem five_blocks (w : World) (o1 o2 o3 o4 o5 : Obj) : ∃ W, ((((w.alloc o1).alloc o2).alloc o3).alloc o4).alloc o5 = W ∧ Below w.heap.size w W ∧ W.heap.size = w.heap.size + 5 ∧
    W.heap[w.heap.size]? = some o1 ∧ W.heap[w.heap.size + 1]? = some o2 ∧ W.heap[w.heap.size + 1 + 1]? = some o3 ∧ W.heap[w.heap.size + 1 + 1 + 1]? = some o4 ∧ W.heap[w.heap.size + 1 + 1 + 1 + 1]? = some o5 := by
  have new : ∀ (w : World) (o : Obj) (n : Nat), w.heap.size = n → (w.alloc o).heap[n]? = some o := fun w o n h => h ▸ World.alloc_heap_new w o
  have old : ∀ (w : World) (o o' : Obj) (n : Nat), w.heap[n]? = some o' → (w.alloc o).heap[n]? = some o' := fun w o o' n h => (Below.heap_alloc w o n (Array.getElem?_eq_some_iff.1 h).1).trans h
  refine ⟨_, rfl, (((((Below.refl _ w).alloc (Nat.le_refl _) _).alloc (by simp) _).alloc (by simp; omega) _).alloc (by simp; omega) _).alloc (by simp; omega) _, by simp, ?_, ?_, ?_, ?_, ?_⟩
  · exact old _ _ _ _ (old _ _ _ _ (old _ _ _ _ (old _ _ _ _ (new _ _ _ rfl))))
  · exact old _ _ _ _ (old _ _ _ _ (old _ _ _ _ (new _ _ _ (by simp))))
  · exact old _ _ _ _ (old _ _ _ _ (new _ _ _ (by simp)))
  · exact old _ _ _ _ (new _ _ _ (by simp))
  · exact new _ _ _ (by simp)
theorem heap_setCell_other (W : World) (b k : Nat) (v : Value) (h : k ≠ b) : (W.setCell ⟨b, 0, none⟩ v).heap[k]? = W.heap[k]? := by
  by_cases hk : k < W.heap.size
  · exact (grownBy_setCell' W b v).block k hk (fun e => h (by cases e; rfl))
  · rw [Array.getElem?_eq_none (by simp; omega), Array.getElem?_eq_none (by omega)]
/-- How a function ends that answers a number or panics with an error. -/
def outE (v : Int × Int) : Ending := if v.2 = 0 then .returned (.int .i64 v.1) else .panicked (errP v.2)
theorem outP_le (ok : Bool) (n : Int) : 0 ≤ (outP ok n).1 ∧ (outP ok n).1 ≤ 1000000000 := by
  unfold outP; split
  · split
    · assumption
    · exact ⟨by decide, by decide⟩
  · exact ⟨by decide, by decide⟩
/-- What the minutes of a span cost: a number and an error. -/
def unitsV (p : Int → Bool) (price unit free f : Int) (t : Nat) : Int × Int := money_Started.v price (max 0 ((mins p f t).length - free)) unit
set_option maxRecDepth 1000000 in
set_option maxHeartbeats 4000000 in
theorem units_calls (q : Nat) (a0 a1 a2 a3 a4 a5 a6 b0 s0 s1 s2 : Int) (A1 : Option Addr) (c1 : Nat) (l1 : List S99) (A2 : Option Addr) (c2 : Nat) (l2 : List Int) (v3 : Value) (f : Int) (t : Nat) (p : Int → Bool) (w : World)
    (hr1 : Kd.C k99 w A1 l1.length l1) (hc1 : l1.length ≤ c1) (hr2 : Kd.C (Kd.int .i64) w A2 l2.length l2) (hc2 : l2.length ≤ c2)
    (hf : 0 ≤ f) (ht : f + t ≤ 4611686018427387904) (h6 : 0 ≤ a6 ∧ a6 ≤ 4611686018427387904)
    (hp : ∀ k : Nat, k < t → tariff_Applies.f q a0 a1 a2 a3 a4 a5 a6 b0 l1 l2 (f + k) = some (p (f + k))) :
    Calls Try.prog 126 #[.agg (itemC a0 a1 a2 a3 a4 a5 a6 b0 (.slice A1 l1.length c1) (.slice A2 l2.length c2) s0 s1 s2 v3), .int .i64 f, .int .i64 (f + t)] w fun e w' => e = outE (unitsV p a4 a5 a6 f t) ∧ Below w.heap.size w w' := by
  have HR1 := Aside0.mk hr1
  have HR2 := Aside0.mk hr2
  have HP := Aside0.mk hp
  have HC := Aside0.mk (And.intro hc1 hc2)
  have HF := Aside0.mk (And.intro hf ht)
  clear hr1 hr2 hp hc1 hc2 hf ht
  obtain ⟨n, c, hv⟩ : ∃ n c, unitsV p a4 a5 a6 f t = (n, c) := ⟨_, _, rfl⟩
  have hn : n ≤ 1000000000 := by rw [show n = (unitsV p a4 a5 a6 f t).1 by rw [hv]]; exact (outP_le _ _).2
  rw [hv]
  have HV := Aside0.mk hv
  clear hv
  unfold itemC
  refine (callsIn_wide (n := 9)).1 ?_
  refine callsIn_of_wp_marks Try.func126 rfl trivial ?_ rfl
  simp only [Try.ntmps126, List.size_toArray, List.length_cons, List.length_nil, Nat.reduceAdd, Nat.reduceSub, Array.replicate_succ, Array.replicate_zero, List.push_toArray, List.append_toArray, List.nil_append, List.cons_append]
  refine wpIn_wide.2 ?_
  go_wp2_with (go_at_call 125; refine (callsIn_wide.1 (applies_in 0 _ _ _ _)).mono ?_; rintro e w' ⟨rfl, rfl⟩)
  obtain ⟨W0, hW0, hc0, hsz, h1, h2, h3, h4, h5⟩ := five_blocks w (.cells #[.int .i64 a0, .int .i64 a1, .int .i64 a2, .int .i64 a3, .int .i64 a4, .int .i64 a5, .int .i64 a6, .int .i64 b0, .slice A1 l1.length c1, .slice A2 l2.length c2, .int .i64 s0, .int .i64 s1, .int .i64 s2, v3] 92) (.cells #[.int .i64 0] 3) (.cells #[.int .i64 a0, .int .i64 a1, .int .i64 a2, .int .i64 a3, .int .i64 a4, .int .i64 a5, .int .i64 a6, .int .i64 b0, .slice A1 l1.length c1, .slice A2 l2.length c2, .int .i64 s0, .int .i64 s1, .int .i64 s2, v3] 92) (.cells #[.int .i64 f] 3) (.cells #[.int .i64 (f + t)] 3)
  rw [hW0]
  clear hW0
  have H1 := Aside0.mk h1
  clear h1
  refine (wpIn_wide (n := 9)).1 ?_
  refine wpIn_rangeFunc_ownH rfl (by omega) (gf := 134) (lb := #[.pointer (some ⟨w.heap.size + 1 + 1 + 1, 0, none⟩), .pointer (some ⟨w.heap.size + 1 + 1 + 1 + 1, 0, none⟩), .pointer (some ⟨w.heap.size + 1 + 1, 0, none⟩)]) rfl trivial (enters_of Try.func134 (by kernel_rfl) rfl)
    (applies_stops 8 (by omega) (w.heap.size + 1 + 1 + 1) (w.heap.size + 1 + 1 + 1 + 1) (w.heap.size + 1 + 1) q a0 a1 a2 a3 a4 a5 a6 b0 s0 s1 s2 A1 c1 l1 A2 c2 l2 v3 f t p w W0 HR1.out HC.out.1 HR2.out HC.out.2 (by have := HF.out; omega) HF.out.2 HP.out hc0 h4 h5 h3) KpX_t (KpX_b (by omega) (by omega) (by omega)) (Below.refl _ _) (fun _ => rfl)
    (fun pre W => (Boxed W (w.heap.size + 1) 3 (.int .i64 (pre.length : Int)) ∧ W.heap[w.heap.size]? = some (.cells #[.int .i64 a0, .int .i64 a1, .int .i64 a2, .int .i64 a3, .int .i64 a4, .int .i64 a5, .int .i64 a6, .int .i64 b0, .slice A1 l1.length c1, .slice A2 l2.length c2, .int .i64 s0, .int .i64 s1, .int .i64 s2, v3] 92 (0, 0))) ∧ Below w.heap.size w W)
    (fun c pre W => False)
    (OwnFrom.and (Own.from (fun s A B row hs hg hr => ⟨boxed_own (w.heap.size + 1) 3 (fun pre => .int .i64 (pre.length : Int)) s A B row hs.1 hg hr, cells_own (β := List Int) _ _ _ s A B row hs.2 hg hr⟩) _) (ownFrom_below (Nat.le_refl _) (by omega)))
    (fun c => fun _ _ _ _ hs _ _ => hs)
    ⟨⟨h2, H1.out⟩, hc0⟩
    (fun x a' W => a' = { tmps := #[.agg #[.int .i64 a0, .int .i64 a1, .int .i64 a2, .int .i64 a3, .int .i64 a4, .int .i64 a5, .int .i64 a6, .int .i64 b0, .slice A1 l1.length c1, .slice A2 l2.length c2, .int .i64 s0, .int .i64 s1, .int .i64 s2, v3], .int .i64 f, .int .i64 (f + t), .pointer (some ⟨w.heap.size, 0, none⟩), undef, undef, .int .i64 0, .pointer (some ⟨w.heap.size + 1, 0, none⟩), .agg #[.int .i64 a0, .int .i64 a1, .int .i64 a2, .int .i64 a3, .int .i64 a4, .int .i64 a5, .int .i64 a6, .int .i64 b0, .slice A1 l1.length c1, .slice A2 l2.length c2, .int .i64 s0, .int .i64 s1, .int .i64 s2, v3], .int .i64 f, .int .i64 (f + t),
      .func (.func 134) #[] #[.pointer (some ⟨w.heap.size + 1 + 1 + 1, 0, none⟩), .pointer (some ⟨w.heap.size + 1 + 1 + 1 + 1, 0, none⟩), .pointer (some ⟨w.heap.size + 1 + 1, 0, none⟩)], .int .i64 x, undef, undef, undef, undef, undef, undef, undef, undef, undef, undef, undef, undef, undef, undef, undef, undef, undef, undef], defers := [] })
    (fun x a' _ X Y row hs hg hr => hs)
    ?assign ?body ?done ?stop
  case assign =>
    rintro l pre x W K hI hK
    dsimp only
    gi_wp2
    exact hK _ _ (KeepsFrom.refl _ _) ⟨Below.refl _ _, rfl, rfl⟩ hI (by simp)
  case body =>
    rintro l pre x a' W hl ⟨lr, hlr⟩ ⟨⟨hb, hx⟩, hB⟩ rfl hlt
    have HB := Aside0.mk (And.intro hB hx)
    have HBX := Aside0.mk hb
    have hcell := hb.cell
    have hfr := hb.frozen
    have HS := Aside0.mk hsz
    have hpl : (pre.length : Int) < 4611686018427387904 := by have := HF.out; omega
    have HT := Aside0.mk hlt
    clear hB hx hb hsz hlr hl hlt
    gi_wp2
    have hlx : (((pre ++ [x]).length : Nat) : Int) = (pre.length : Int) + 1 := by simp
    refine ⟨(KeepsOthers.setCell _ _ _).from _, ⟨(Below.refl _ _).setCell (p := ⟨w.heap.size + 1, 0, none⟩) (by simp) _, ?_, ?_⟩, ⟨⟨?_, ?_⟩, HB.out.1.setCell (p := ⟨w.heap.size + 1, 0, none⟩) (by simp) _⟩⟩
    · exact heap_setCell_other _ _ _ _ (by omega)
    · exact heap_setCell_other _ _ _ _ (by omega)
    · rw [hlx]; exact HBX.out.set _
    · exact (heap_setCell_other _ _ _ _ (by omega)).trans HB.out.2
  case done =>
    rintro D ys W hD rfl ⟨⟨hb, hx⟩, hB⟩ hK
    have x4 : W.cell? ⟨w.heap.size, 4, none⟩ = some (.int .i64 a4) := (blk_cell hx 4).trans rfl
    have x5 : W.cell? ⟨w.heap.size, 5, none⟩ = some (.int .i64 a5) := (blk_cell hx 5).trans rfl
    have x6 : W.cell? ⟨w.heap.size, 6, none⟩ = some (.int .i64 a6) := (blk_cell hx 6).trans rfl
    have hcell := hb.cell
    have hl := mins_length p f t
    generalize hL : ((mins p f t).length : Int) = L at hcell
    have HL : 0 ≤ L ∧ L ≤ 4611686018427387904 := by have := HF.out; omega
    have HLL := Aside0.mk hL
    clear hL hl hb hx
    have HV1 : Aside0 (∀ x, x = max 0 (L - a6) → money_Started.f a4 x a5 = some (n, c)) := ⟨fun x hx => by rw [hx, ← HLL.out]; exact congrArg some HV.out⟩
    have hD : D < W.heap.size := (Array.getElem?_eq_some_iff.1 hK).1
    obtain ⟨X, hX, hm⟩ : ∃ X, money_Started.f a4 X a5 = some (n, c) ∧ (0 < L - a6 ∧ X = L - a6 ∨ L - a6 ≤ 0 ∧ X = 0) := by
      by_cases hm : 0 < L - a6
      · exact ⟨_, HV1.out _ (by omega), .inl ⟨hm, rfl⟩⟩
      · exact ⟨_, HV1.out 0 (by omega), .inr ⟨by omega, rfl⟩⟩
    have HX := Aside0.mk hX
    clear hX
    rcases hm with ⟨hm, rfl⟩ | ⟨hm, rfl⟩
    all_goals
      by_cases g : c = 0
      · subst g
        go_wp2_with (first | (go_at_call 86; refine (money_Started.calls a4 _ a5 n 0 W (by exact HX.out)).mono ?_; rintro e w2 ⟨rfl, hb2⟩; have HB2 := Aside0.mk hb2; clear hb2) | (go_at_call 97; refine (must_ok _ _ hn).mono ?_; rintro e w3 ⟨rfl, rfl⟩))
        refine ⟨by simp, .inl ⟨_, _, rfl, run_takeDeferred ((HB2.out.block D hD).trans hK), ?_⟩⟩
        exact ⟨_, results_tmp rfl _ _ _, rfl, (hB.trans (HB2.out.mono hB.size)).trans (belowK_b (w := w) (Nat.le_refl _) _ D _ _ (by omega) ((HB2.out.block D hD).trans hK) rfl rfl)⟩
      · have HG := Aside0.mk g
        clear g
        go_wp2_with (first | (go_at_call 86; refine (money_Started.calls a4 _ a5 n c W (by exact HX.out)).mono ?_; rintro e w2 ⟨rfl, hb2⟩; have HB2 := Aside0.mk hb2; clear hb2) | (go_at_call 97; refine (must_bad _ _ _ HG.out).mono ?_; rintro e w3 ⟨rfl, rfl⟩))
        refine ⟨by simp, .inl ⟨_, _, rfl, run_takeDeferred ((HB2.out.block D hD).trans hK), ?_⟩⟩
        exact ⟨(if_neg HG.out).symm, (hB.trans (HB2.out.mono hB.size)).trans (belowK_b (w := w) (Nat.le_refl _) _ D _ _ (by omega) ((HB2.out.block D hD).trans hK) rfl rfl)⟩
  case stop =>
    rintro D c pre W hD hS hf hK
    exact hf.elim
end Go.Proofs.Ytbkkgaiokmnmgaa.Pr
/- Package bill over this program: start. -/
namespace Go.Proofs.Ytbkkgaiokmnmgaa.Pr
open Go.RowKit Go.Proofs.YtbkkgaiokmnmgaaW.PrintWords Go.Proofs.YtbkkgaiokmnmgaaW.PrintLast Go.Proofs.YtbkkgaiokmnmgaaW.PrintMore
set_option linter.unusedVariables false
set_option linter.unusedSimpArgs false
attribute [local go_sem] Oper.semAt_some
/-- What a start costs. -/
def startV (p : Int → Bool) (s : Int) (a : Int) : Int := if p s then a else 0
theorem mins_one (p : Int → Bool) (f : Int) : mins p f 1 = if p f then [f] else [] := by
  have h := mins_succ p f 0
  simpa [mins] using h
set_option maxRecDepth 1000000 in
set_option maxHeartbeats 4000000 in
theorem start_calls (q : Nat) (a0 a1 a2 a3 a4 a5 a6 b0 s0 s1 s2 : Int) (A1 : Option Addr) (c1 : Nat) (l1 : List S99) (A2 : Option Addr) (c2 : Nat) (l2 : List Int) (v3 : Value) (p : Int → Bool) (w : World)
    (hr1 : Kd.C k99 w A1 l1.length l1) (hc1 : l1.length ≤ c1) (hr2 : Kd.C (Kd.int .i64) w A2 l2.length l2) (hc2 : l2.length ≤ c2)
    (hf : 0 ≤ s0) (ht : s0 + 1 ≤ 4611686018427387904)
    (hp : tariff_Applies.f q a0 a1 a2 a3 a4 a5 a6 b0 l1 l2 s0 = some (p s0)) :
    Calls Try.prog 102 #[.agg (itemC a0 a1 a2 a3 a4 a5 a6 b0 (.slice A1 l1.length c1) (.slice A2 l2.length c2) s0 s1 s2 v3)] w fun e w' => e = .returned (.int .i64 (startV p s0 a4)) ∧ Below w.heap.size w w' := by
  have HR1 := Aside0.mk hr1
  have HR2 := Aside0.mk hr2
  have HP : Aside0 (∀ k : Nat, k < 1 → tariff_Applies.f q a0 a1 a2 a3 a4 a5 a6 b0 l1 l2 (s0 + k) = some (p (s0 + k))) := ⟨fun k hk => by rw [show s0 + (k : Int) = s0 by omega]; exact hp⟩
  have HC := Aside0.mk (And.intro hc1 hc2)
  have HF := Aside0.mk (And.intro hf ht)
  clear hr1 hr2 hp hc1 hc2
  unfold itemC
  refine (callsIn_wide (n := 9)).1 ?_
  refine callsIn_of_wp_marks Try.func102 rfl trivial ?_ rfl
  simp only [Try.ntmps102, List.size_toArray, List.length_cons, List.length_nil, Nat.reduceAdd, Nat.reduceSub, Array.replicate_succ, Array.replicate_zero, List.push_toArray, List.append_toArray, List.nil_append, List.cons_append]
  refine wpIn_wide.2 ?_
  go_wp2_with (go_at_call 125; refine (callsIn_wide.1 (applies_in 0 _ _ _ _)).mono ?_; rintro e w' ⟨rfl, rfl⟩)
  obtain ⟨W0, hW0, hc0, hsz, h1, h2, h3, h4, h5⟩ := five_blocks w (.cells #[.int .i64 a0, .int .i64 a1, .int .i64 a2, .int .i64 a3, .int .i64 a4, .int .i64 a5, .int .i64 a6, .int .i64 b0, .slice A1 l1.length c1, .slice A2 l2.length c2, .int .i64 s0, .int .i64 s1, .int .i64 s2, v3] 92) (.cells #[.int .i64 0] 3) (.cells #[.int .i64 a0, .int .i64 a1, .int .i64 a2, .int .i64 a3, .int .i64 a4, .int .i64 a5, .int .i64 a6, .int .i64 b0, .slice A1 l1.length c1, .slice A2 l2.length c2, .int .i64 s0, .int .i64 s1, .int .i64 s2, v3] 92) (.cells #[.int .i64 s0] 3) (.cells #[.int .i64 (s0 + 1)] 3)
  rw [hW0]
  clear hW0
  have H1 := Aside0.mk h1
  clear h1
  refine (wpIn_wide (n := 9)).1 ?_
  refine wpIn_rangeFunc_ownH rfl (by omega) (gf := 134) (lb := #[.pointer (some ⟨w.heap.size + 1 + 1 + 1, 0, none⟩), .pointer (some ⟨w.heap.size + 1 + 1 + 1 + 1, 0, none⟩), .pointer (some ⟨w.heap.size + 1 + 1, 0, none⟩)]) rfl trivial (enters_of Try.func134 (by kernel_rfl) rfl)
    (applies_stops 8 (by omega) (w.heap.size + 1 + 1 + 1) (w.heap.size + 1 + 1 + 1 + 1) (w.heap.size + 1 + 1) q a0 a1 a2 a3 a4 a5 a6 b0 s0 s1 s2 A1 c1 l1 A2 c2 l2 v3 s0 1 p w W0 HR1.out HC.out.1 HR2.out HC.out.2 (by have := HF.out; omega) HF.out.2 HP.out hc0 h4 h5 h3) KpX_t (KpX_b (by omega) (by omega) (by omega)) (Below.refl _ _) (fun _ => rfl)
    (fun pre W => (pre = [] ∧ Boxed W (w.heap.size + 1) 3 (.int .i64 0) ∧ W.heap[w.heap.size]? = some (.cells #[.int .i64 a0, .int .i64 a1, .int .i64 a2, .int .i64 a3, .int .i64 a4, .int .i64 a5, .int .i64 a6, .int .i64 b0, .slice A1 l1.length c1, .slice A2 l2.length c2, .int .i64 s0, .int .i64 s1, .int .i64 s2, v3] 92 (0, 0))) ∧ Below w.heap.size w W)
    (fun c pre W => (c = .ret ∧ Boxed W (w.heap.size + 1) 3 (.int .i64 a4)) ∧ Below w.heap.size w W)
    (OwnFrom.and (Own.from (fun s A B row hs hg hr => ⟨hs.1, boxed_own (β := Unit) (w.heap.size + 1) 3 (fun _ => .int .i64 0) () A B row hs.2.1 hg hr, cells_own (β := List Int) _ _ _ s A B row hs.2.2 hg hr⟩) _) (ownFrom_below (Nat.le_refl _) (by omega)))
    (fun c => OwnFrom.and (Own.from (fun s A B row hs hg hr => ⟨hs.1, boxed_own (β := Unit) (w.heap.size + 1) 3 (fun _ => .int .i64 a4) () A B row hs.2 hg hr⟩) _) (ownFrom_below (Nat.le_refl _) (by omega)))
    ⟨⟨rfl, h2, H1.out⟩, hc0⟩
    (fun x a' W => a' = { tmps := #[.agg #[.int .i64 a0, .int .i64 a1, .int .i64 a2, .int .i64 a3, .int .i64 a4, .int .i64 a5, .int .i64 a6, .int .i64 b0, .slice A1 l1.length c1, .slice A2 l2.length c2, .int .i64 s0, .int .i64 s1, .int .i64 s2, v3], .pointer (some ⟨w.heap.size, 0, none⟩), .pointer (some ⟨w.heap.size + 1, 0, none⟩), .agg #[.int .i64 a0, .int .i64 a1, .int .i64 a2, .int .i64 a3, .int .i64 a4, .int .i64 a5, .int .i64 a6, .int .i64 b0, .slice A1 l1.length c1, .slice A2 l2.length c2, .int .i64 s0, .int .i64 s1, .int .i64 s2, v3], .pointer (some ⟨w.heap.size, 10, none⟩), .pointer (some ⟨w.heap.size, 10, none⟩), .int .i64 s0, .pointer (some ⟨w.heap.size, 10, none⟩), .pointer (some ⟨w.heap.size, 10, none⟩), .int .i64 s0, .int .i64 (s0 + 1),
      .func (.func 134) #[] #[.pointer (some ⟨w.heap.size + 1 + 1 + 1, 0, none⟩), .pointer (some ⟨w.heap.size + 1 + 1 + 1 + 1, 0, none⟩), .pointer (some ⟨w.heap.size + 1 + 1, 0, none⟩)], .int .i64 x, undef, undef, undef], defers := [] })
    (fun x a' _ X Y row hs hg hr => hs)
    ?assign ?body ?done ?stop
  case assign =>
    rintro l pre x W K hI hK
    dsimp only
    gi_wp2
    exact hK _ _ (KeepsFrom.refl _ _) ⟨Below.refl _ _, rfl, rfl⟩ hI (by simp)
  case body =>
    rintro l pre x a' W hl ⟨lr, hlr⟩ ⟨⟨hpre, hb, hx⟩, hB⟩ rfl hlt
    have HB := Aside0.mk (And.intro hB hx)
    have HBX := Aside0.mk hb
    have x4 : W.cell? ⟨w.heap.size, 4, none⟩ = some (.int .i64 a4) := (blk_cell hx 4).trans rfl
    have hcell := hb.cell
    have hfr := hb.frozen
    have HS := Aside0.mk hsz
    clear hB hx hb hsz hlr hl hlt hpre
    gi_wp2
    refine ⟨(KeepsOthers.setCell _ _ _).from _, ⟨rfl, HBX.out.set _⟩, HB.out.1.setCell (p := ⟨w.heap.size + 1, 0, none⟩) (by simp) _⟩
  case done =>
    rintro D ys W hD hys ⟨⟨rfl, hb, hx⟩, hB⟩ hK
    have hps : p s0 = false := by
      rw [mins_one] at hys
      cases hh : p s0
      · rfl
      · rw [hh] at hys; cases hys
    have HY : Aside0 (startV p s0 a4 = 0) := ⟨by unfold startV; rw [hps]; rfl⟩
    have hcell := hb.cell
    have hfr := hb.frozen
    clear hys hps
    go_wp2
    refine ⟨by simp, .inl ⟨_, _, rfl, run_takeDeferred ((heap_setCell_other _ _ _ _ (by omega)).trans hK), ?_⟩⟩
    have bc2 : Boxed ((W.setCell ⟨w.heap.size + 1, 0, none⟩ (.int .i64 0)).putObj D (.deferred none)) (w.heap.size + 1) 3 (.int .i64 0) := (World.putObj_heap_other (by omega)).trans (hb.set _)
    have hc2 := bc2.cell
    exact ⟨.int .i64 _, by simp [results, Try.results102, go_sem, hc2]; rfl, by rw [HY.out], (hB.setCell (p := ⟨w.heap.size + 1, 0, none⟩) (by simp) _).trans (belowK_b (w := w) (Nat.le_refl _) _ D _ _ (by omega) ((heap_setCell_other _ _ _ _ (by omega)).trans hK) rfl rfl)⟩
  case stop =>
    rintro D c pre W hD ⟨k, hk, hpk, hpre⟩ ⟨⟨rfl, hb⟩, hB⟩ hK
    obtain rfl : k = 0 := by omega
    rw [show s0 + ((0 : Nat) : Int) = s0 by simp] at hpk
    have HY : Aside0 (startV p s0 a4 = a4) := ⟨by unfold startV; rw [hpk]; rfl⟩
    clear hpk
    have hcell := hb.cell
    refine wpIn_wide.2 ?_
    go_wp2
    refine ⟨by simp, .inl ⟨_, _, rfl, run_takeDeferred hK, ?_⟩⟩
    have bc2 : Boxed (W.putObj D (.deferred none)) (w.heap.size + 1) 3 (.int .i64 a4) := (World.putObj_heap_other (by omega)).trans hb
    have hc2 := bc2.cell
    exact ⟨.int .i64 _, by simp [results, Try.results102, go_sem, hc2]; rfl, by rw [HY.out], hB.trans (belowK_b (w := w) (Nat.le_refl _) _ D _ _ (by omega) hK rfl rfl)⟩
end Go.Proofs.Ytbkkgaiokmnmgaa.Pr
/- Package bill over this program: time, idle, energy. -/
namespace Go.Proofs.Ytbkkgaiokmnmgaa.Pr
open Go.RowKit Go.Proofs.YtbkkgaiokmnmgaaW.PrintWords Go.Proofs.YtbkkgaiokmnmgaaW.PrintLast Go.Proofs.YtbkkgaiokmnmgaaW.PrintMore
set_option linter.unusedVariables false
set_option linter.unusedSimpArgs false
theorem outE_ok {v : Int × Int} (h : v.2 = 0) : outE v = .returned (.int .i64 v.1) := if_pos h
theorem outE_bad {v : Int × Int} (h : v.2 ≠ 0) : outE v = .panicked (errP v.2) := if_neg h
theorem units_at (q : Nat) (a0 a1 a2 a3 a4 a5 a6 b0 s0 s1 s2 : Int) (A1 : Option Addr) (c1 : Nat) (l1 : List S99) (A2 : Option Addr) (c2 : Nat) (l2 : List Int) (v3 : Value) (f g : Int) (p : Int → Bool) (w : World)
    (hr1 : Kd.C k99 w A1 l1.length l1) (hc1 : l1.length ≤ c1) (hr2 : Kd.C (Kd.int .i64) w A2 l2.length l2) (hc2 : l2.length ≤ c2)
    (hf : 0 ≤ f) (hg : f ≤ g) (ht : g ≤ 4611686018427387904) (h6 : 0 ≤ a6 ∧ a6 ≤ 4611686018427387904)
    (hp : ∀ m, tariff_Applies.f q a0 a1 a2 a3 a4 a5 a6 b0 l1 l2 m = some (p m)) :
    Calls Try.prog 126 #[.agg #[.int .i64 a0, .int .i64 a1, .int .i64 a2, .int .i64 a3, .int .i64 a4, .int .i64 a5, .int .i64 a6, .int .i64 b0, .slice A1 l1.length c1, .slice A2 l2.length c2, .int .i64 s0, .int .i64 s1, .int .i64 s2, v3], .int .i64 f, .int .i64 g] w fun e w' => e = outE (unitsV p a4 a5 a6 f (g - f).toNat) ∧ Below w.heap.size w w' := by
  have h := units_calls q a0 a1 a2 a3 a4 a5 a6 b0 s0 s1 s2 A1 c1 l1 A2 c2 l2 v3 f (g - f).toNat p w hr1 hc1 hr2 hc2 hf (by omega) h6 (fun k _ => hp _)
  rw [show f + ((g - f).toNat : Int) = g by omega] at h
  exact h
set_option maxRecDepth 1000000 in
set_option maxHeartbeats 4000000 in
theorem time_calls (q : Nat) (a0 a1 a2 a3 a4 a5 a6 b0 s0 s1 s2 : Int) (A1 : Option Addr) (c1 : Nat) (l1 : List S99) (A2 : Option Addr) (c2 : Nat) (l2 : List Int) (v3 : Value) (p : Int → Bool) (w : World)
    (hr1 : Kd.C k99 w A1 l1.length l1) (hc1 : l1.length ≤ c1) (hr2 : Kd.C (Kd.int .i64) w A2 l2.length l2) (hc2 : l2.length ≤ c2)
    (hf : 0 ≤ s0) (hg : s0 ≤ s1) (ht : s1 ≤ 4611686018427387904) (h6 : 0 ≤ a6 ∧ a6 ≤ 4611686018427387904)
    (hp : ∀ m, tariff_Applies.f q a0 a1 a2 a3 a4 a5 a6 b0 l1 l2 m = some (p m)) :
    Calls Try.prog 104 #[.agg (itemC a0 a1 a2 a3 a4 a5 a6 b0 (.slice A1 l1.length c1) (.slice A2 l2.length c2) s0 s1 s2 v3)] w fun e w' => e = outE (unitsV p a4 a5 a6 s0 (s1 - s0).toNat) ∧ Below w.heap.size w w' := by
  have HU : Aside0 (∀ W, Below w.heap.size w W → _) := ⟨fun W hW => units_at q a0 a1 a2 a3 a4 a5 a6 b0 s0 s1 s2 A1 c1 l1 A2 c2 l2 v3 s0 s1 p W (Kd.C_below hr1 hW) hc1 (Kd.C_below hr2 hW) hc2 hf hg ht h6 hp⟩
  obtain ⟨v, hv⟩ : ∃ v, unitsV p a4 a5 a6 s0 (s1 - s0).toNat = v := ⟨_, rfl⟩
  rw [hv] at HU ⊢
  clear hr1 hr2 hp hc1 hc2 hf hg ht h6 hv
  have HV : Aside0 (v.2 = 0 ∨ v.2 ≠ 0) := ⟨by omega⟩
  unfold itemC
  go_enter Try.func104, Try.ntmps104
  rcases HV.out with hv | hv
  · have HE := Aside0.mk (outE_ok hv)
    rw [HE.out] at HU ⊢
    clear hv HV HE
    go_wp2_with (go_at_call 126; refine (HU.out _ (by exact (Below.refl _ _).alloc (Nat.le_refl _) _)).mono ?_; rintro e w2 ⟨rfl, hb2⟩; have HB2 := Aside0.mk hb2; clear hb2)
    go_ret
    exact ⟨rfl, ((Below.refl _ _).alloc (Nat.le_refl _) _).trans (HB2.out.mono (by simp))⟩
  · have HE := Aside0.mk (outE_bad hv)
    rw [HE.out] at HU ⊢
    clear hv HV HE
    go_wp2_with (go_at_call 126; refine (HU.out _ (by exact (Below.refl _ _).alloc (Nat.le_refl _) _)).mono ?_; rintro e w2 ⟨rfl, hb2⟩; have HB2 := Aside0.mk hb2; clear hb2)
    exact ⟨rfl, rfl, ((Below.refl _ _).alloc (Nat.le_refl _) _).trans (HB2.out.mono (by simp))⟩
set_option maxRecDepth 1000000 in
set_option maxHeartbeats 4000000 in
theorem idle_calls (q : Nat) (a0 a1 a2 a3 a4 a5 a6 b0 s0 s1 s2 : Int) (A1 : Option Addr) (c1 : Nat) (l1 : List S99) (A2 : Option Addr) (c2 : Nat) (l2 : List Int) (v3 : Value) (p : Int → Bool) (w : World)
    (hr1 : Kd.C k99 w A1 l1.length l1) (hc1 : l1.length ≤ c1) (hr2 : Kd.C (Kd.int .i64) w A2 l2.length l2) (hc2 : l2.length ≤ c2)
    (hf : 0 ≤ s2) (hg : s2 ≤ s1) (ht : s1 ≤ 4611686018427387904) (h6 : 0 ≤ a6 ∧ a6 ≤ 4611686018427387904)
    (hp : ∀ m, tariff_Applies.f q a0 a1 a2 a3 a4 a5 a6 b0 l1 l2 m = some (p m)) :
    Calls Try.prog 105 #[.agg (itemC a0 a1 a2 a3 a4 a5 a6 b0 (.slice A1 l1.length c1) (.slice A2 l2.length c2) s0 s1 s2 v3)] w fun e w' => e = outE (unitsV p a4 a5 a6 s2 (s1 - s2).toNat) ∧ Below w.heap.size w w' := by
  have HU : Aside0 (∀ W, Below w.heap.size w W → _) := ⟨fun W hW => units_at q a0 a1 a2 a3 a4 a5 a6 b0 s0 s1 s2 A1 c1 l1 A2 c2 l2 v3 s2 s1 p W (Kd.C_below hr1 hW) hc1 (Kd.C_below hr2 hW) hc2 hf hg ht h6 hp⟩
  obtain ⟨v, hv⟩ : ∃ v, unitsV p a4 a5 a6 s2 (s1 - s2).toNat = v := ⟨_, rfl⟩
  rw [hv] at HU ⊢
  clear hr1 hr2 hp hc1 hc2 hf hg ht h6 hv
  have HV : Aside0 (v.2 = 0 ∨ v.2 ≠ 0) := ⟨by omega⟩
  unfold itemC
  go_enter Try.func105, Try.ntmps105
  rcases HV.out with hv | hv
  · have HE := Aside0.mk (outE_ok hv)
    rw [HE.out] at HU ⊢
    clear hv HV HE
    go_wp2_with (go_at_call 126; refine (HU.out _ (by exact (Below.refl _ _).alloc (Nat.le_refl _) _)).mono ?_; rintro e w2 ⟨rfl, hb2⟩; have HB2 := Aside0.mk hb2; clear hb2)
    go_ret
    exact ⟨rfl, ((Below.refl _ _).alloc (Nat.le_refl _) _).trans (HB2.out.mono (by simp))⟩
  · have HE := Aside0.mk (outE_bad hv)
    rw [HE.out] at HU ⊢
    clear hv HV HE
    go_wp2_with (go_at_call 126; refine (HU.out _ (by exact (Below.refl _ _).alloc (Nat.le_refl _) _)).mono ?_; rintro e w2 ⟨rfl, hb2⟩; have HB2 := Aside0.mk hb2; clear hb2)
    exact ⟨rfl, rfl, ((Below.refl _ _).alloc (Nat.le_refl _) _).trans (HB2.out.mono (by simp))⟩
/-- The energy of the slices in whose minutes a test says yes. -/
def enSum (p : Int → Bool) : List S50 → Int → Int
  | [], n => n
  | x :: xs, n => enSum p xs (if p x.f0 then n + x.f1 else n)
theorem drop_rdS {l : List S50} {i : Int} (h0 : 0 ≤ i) (h1 : i < (l.length : Int)) : l.drop i.toNat = rd_T50 l i :: l.drop (i + 1).toNat := by
  have hl : i.toNat < l.length := by omega
  rw [List.drop_eq_getElem_cons hl, show (i + 1).toNat = i.toNat + 1 by omega]
  unfold rd_T50
  rw [List.getD_eq_getElem?_getD, List.getElem?_eq_getElem hl]
  rfl
theorem rdS_mem {l : List S50} {i : Int} (h0 : 0 ≤ i) (h1 : i < (l.length : Int)) : rd_T50 l i ∈ l := by
  have h := drop_rdS h0 h1
  exact List.mem_of_mem_drop (h ▸ List.mem_cons_self ..)
set_option maxRecDepth 1000000 in
set_option maxHeartbeats 4000000 in
theorem energy_calls (q : Nat) (a0 a1 a2 a3 a4 a5 a6 b0 s0 s1 s2 : Int) (A1 : Option Addr) (c1 : Nat) (l1 : List S99) (A2 : Option Addr) (c2 : Nat) (l2 : List Int) (A3 : Option Addr) (c3 : Nat) (l3 : List S50) (p : Int → Bool) (w : World)
    (hr1 : Kd.C k99 w A1 l1.length l1) (hc1 : l1.length ≤ c1) (hr2 : Kd.C (Kd.int .i64) w A2 l2.length l2) (hc2 : l2.length ≤ c2) (hr3 : Kd.C k50 w A3 l3.length l3) (hc3 : l3.length ≤ c3)
    (hb : ∀ x ∈ l3, 0 ≤ x.f1 ∧ x.f1 ≤ 10000) (hl : l3.length ≤ 48)
    (hp : ∀ m, tariff_Applies.f q a0 a1 a2 a3 a4 a5 a6 b0 l1 l2 m = some (p m)) :
    Calls Try.prog 103 #[.agg (itemC a0 a1 a2 a3 a4 a5 a6 b0 (.slice A1 l1.length c1) (.slice A2 l2.length c2) s0 s1 s2 (.slice A3 l3.length c3))] w fun e w' => e = outE (money_Times.v a4 (enSum p l3 0) 1000) ∧ Below w.heap.size w w' := by
  have HR1 := Aside0.mk hr1
  have HR2 := Aside0.mk hr2
  have HR3 := Aside0.mk hr3
  have HP := Aside0.mk hp
  have HC := Aside0.mk (And.intro hc1 hc2)
  have HL := Aside0.mk (And.intro hb hl)
  obtain ⟨v, hv⟩ : ∃ v, money_Times.v a4 (enSum p l3 0) 1000 = v := ⟨_, rfl⟩
  have hn : v.1 ≤ 1000000000 := by rw [← hv]; exact (outP_le _ _).2
  rw [hv]
  have HV := Aside0.mk hv
  clear hr1 hr2 hr3 hp hc1 hc2 hc3 hb hv
  unfold itemC
  go_enter Try.func103, Try.ntmps103
  go_wp2
  go_loopw [3, 10] (fun s3 s10 wr => ∃ (i n : Int), s10 = .int .i64 i ∧ s3 = .int .i64 n ∧ 0 ≤ i ∧ i ≤ l3.length ∧ 0 ≤ n ∧ n ≤ 10000 * i ∧ Aside0 (Below w.heap.size w wr) ∧
    Aside0 (wr.heap[w.heap.size]? = some (.cells #[.int .i64 a0, .int .i64 a1, .int .i64 a2, .int .i64 a3, .int .i64 a4, .int .i64 a5, .int .i64 a6, .int .i64 b0, .slice A1 l1.length c1, .slice A2 l2.length c2, .int .i64 s0, .int .i64 s1, .int .i64 s2, .slice A3 l3.length c3] 92 (0, 0))) ∧ Aside0 (enSum p l3 0 = enSum p (l3.drop i.toNat) n)) (fun _ s10 _ => l3.length - (intOf s10).toNat)
  case atStart => exact ⟨0, 0, rfl, rfl, Int.le_refl _, by omega, Int.le_refl _, by omega, ⟨(Below.refl _ _).alloc (Nat.le_refl _) _⟩, ⟨World.alloc_heap_new _ _⟩, ⟨rfl⟩⟩
  case round =>
    obtain ⟨i, n, rfl, rfl, h0, h1, h2, h3, HB, HK, HS⟩ := hrel
    have x4 : wr.cell? ⟨w.heap.size, 4, none⟩ = some (.int .i64 a4) := (blk_cell HK.out 4).trans rfl
    by_cases hlt : i < (l3.length : Int)
    · obtain ⟨ad, rfl, y0, y1⟩ := at_T50 HR3.out i h0 hlt
      have hd := drop_rdS h0 hlt
      have hm := HL.out.1 _ (rdS_mem h0 hlt)
      generalize rd_T50 l3 i = x at y0 y1 hd hm
      have HD : Aside0 (enSum p l3 0 = enSum p (l3.drop (i + 1).toNat) (if p x.f0 then n + x.f1 else n)) := ⟨by rw [HS.out, hd]; rfl⟩
      have hm0 := hm.1
      have hm1 := hm.2
      have hlt48 : i < 48 := by have := HL.out.2; omega
      clear hd hm
      replace y0 := (HB.out.cell (World.block_lt_of_cell? w _ y0)).trans y0
      replace y1 := (HB.out.cell (World.block_lt_of_cell? w _ y1)).trans y1
      have x0' : (wr.alloc (.cells #[.int .i64 x.f0, .int .i64 x.f1] 50)).cell? ⟨w.heap.size, 0, none⟩ = some (.int .i64 a0) := old_cell _ ((blk_cell HK.out 0).trans rfl)
      have x1' : (wr.alloc (.cells #[.int .i64 x.f0, .int .i64 x.f1] 50)).cell? ⟨w.heap.size, 1, none⟩ = some (.int .i64 a1) := old_cell _ ((blk_cell HK.out 1).trans rfl)
      have x2' : (wr.alloc (.cells #[.int .i64 x.f0, .int .i64 x.f1] 50)).cell? ⟨w.heap.size, 2, none⟩ = some (.int .i64 a2) := old_cell _ ((blk_cell HK.out 2).trans rfl)
      have x3' : (wr.alloc (.cells #[.int .i64 x.f0, .int .i64 x.f1] 50)).cell? ⟨w.heap.size, 3, none⟩ = some (.int .i64 a3) := old_cell _ ((blk_cell HK.out 3).trans rfl)
      have x4' : (wr.alloc (.cells #[.int .i64 x.f0, .int .i64 x.f1] 50)).cell? ⟨w.heap.size, 4, none⟩ = some (.int .i64 a4) := old_cell _ ((blk_cell HK.out 4).trans rfl)
      have x5' : (wr.alloc (.cells #[.int .i64 x.f0, .int .i64 x.f1] 50)).cell? ⟨w.heap.size, 5, none⟩ = some (.int .i64 a5) := old_cell _ ((blk_cell HK.out 5).trans rfl)
      have x6' : (wr.alloc (.cells #[.int .i64 x.f0, .int .i64 x.f1] 50)).cell? ⟨w.heap.size, 6, none⟩ = some (.int .i64 a6) := old_cell _ ((blk_cell HK.out 6).trans rfl)
      have x7' : (wr.alloc (.cells #[.int .i64 x.f0, .int .i64 x.f1] 50)).cell? ⟨w.heap.size, 7, none⟩ = some (.int .i64 b0) := old_cell _ ((blk_cell HK.out 7).trans rfl)
      have x8' : (wr.alloc (.cells #[.int .i64 x.f0, .int .i64 x.f1] 50)).cell? ⟨w.heap.size, 8, none⟩ = some (.slice A1 l1.length c1) := old_cell _ ((blk_cell HK.out 8).trans rfl)
      have x9' : (wr.alloc (.cells #[.int .i64 x.f0, .int .i64 x.f1] 50)).cell? ⟨w.heap.size, 9, none⟩ = some (.slice A2 l2.length c2) := old_cell _ ((blk_cell HK.out 9).trans rfl)
      have HBa : Aside0 (Below w.heap.size w (wr.alloc (.cells #[.int .i64 x.f0, .int .i64 x.f1] 50))) := ⟨HB.out.alloc HB.out.size _⟩
      cases hpx : p x.f0 with
      | false =>
        have HA := Aside0.mk (HP.out x.f0)
        rw [hpx] at HA HD
        clear hpx
        go_wp2_with (go_at_call 38; refine (tariff_Applies.calls q _ _ _ _ _ _ _ _ _ _ l1 _ _ l2 _ false _ (by exact Kd.C_below HR1.out HBa.out) (by exact HC.out.1) (by exact Kd.C_below HR2.out HBa.out) (by exact HC.out.2) (by exact HA.out)).mono ?_; rintro e w2 ⟨rfl, hb2⟩; have HB2 := Aside0.mk hb2; clear hb2)
        go_roundw
        case rel => exact ⟨i + 1, n, rfl, rfl, by omega, by omega, h2, by omega, ⟨HBa.out.trans (HB2.out.mono HBa.out.size)⟩, ⟨(HB2.out.block _ (by have := blk_lt HK.out; simp; omega)).trans ((Below.heap_alloc _ _ _ (blk_lt HK.out)).trans HK.out)⟩, ⟨HD.out⟩⟩
        case measure => simp [intOf]; omega
      | true =>
        have HA := Aside0.mk (HP.out x.f0)
        rw [hpx] at HA HD
        clear hpx
        go_wp2_with (go_at_call 38; refine (tariff_Applies.calls q _ _ _ _ _ _ _ _ _ _ l1 _ _ l2 _ true _ (by exact Kd.C_below HR1.out HBa.out) (by exact HC.out.1) (by exact Kd.C_below HR2.out HBa.out) (by exact HC.out.2) (by exact HA.out)).mono ?_; rintro e w2 ⟨rfl, hb2⟩; have y6 : w2.cell? ⟨wr.heap.size, 1, none⟩ = some (.int .i64 x.f1) := (hb2.cell (p := ⟨wr.heap.size, 1, none⟩) (by simp)).trans (by simp [go_sem]); have HB2 := Aside0.mk hb2; clear hb2)
        go_roundw
        case rel => exact ⟨i + 1, n + x.f1, rfl, rfl, by omega, by omega, by omega, by omega, ⟨HBa.out.trans (HB2.out.mono HBa.out.size)⟩, ⟨(HB2.out.block _ (by have := blk_lt HK.out; simp; omega)).trans ((Below.heap_alloc _ _ _ (blk_lt HK.out)).trans HK.out)⟩, ⟨HD.out⟩⟩
        case measure => simp [intOf]; omega
    · have he : enSum p l3 0 = n := by rw [HS.out, List.drop_eq_nil_of_le (by omega)]; rfl
      have HT : Aside0 (money_Times.f a4 n 1000 = some (v.1, v.2)) := ⟨by rw [← he]; exact congrArg some HV.out⟩
      clear he
      by_cases g : v.2 = 0
      · have HE := Aside0.mk (outE_ok g)
        rw [g] at HT
        clear g
        go_wp2_with (first | (go_at_call 87; refine (money_Times.calls _ _ _ _ _ _ (by exact HT.out)).mono ?_; rintro e w2 ⟨rfl, hb2⟩; have HB2 := Aside0.mk hb2; clear hb2) | (go_at_call 97; refine (must_ok _ _ hn).mono ?_; rintro e w3 ⟨rfl, rfl⟩))
        go_ret
        first | exact ⟨HE.out.symm, HB.out.trans (HB2.out.mono HB.out.size)⟩ | exact ⟨rfl, HE.out.symm, HB.out.trans (HB2.out.mono HB.out.size)⟩
      · have HE := Aside0.mk (outE_bad g)
        have HG := Aside0.mk g
        clear g
        go_wp2_with (first | (go_at_call 87; refine (money_Times.calls _ _ _ _ _ _ (by exact HT.out)).mono ?_; rintro e w2 ⟨rfl, hb2⟩; have HB2 := Aside0.mk hb2; clear hb2) | (go_at_call 97; refine (must_bad _ _ _ HG.out).mono ?_; rintro e w3 ⟨rfl, rfl⟩))
        first | exact ⟨HE.out.symm, HB.out.trans (HB2.out.mono HB.out.size)⟩ | exact ⟨rfl, HE.out.symm, HB.out.trans (HB2.out.mono HB.out.size)⟩
end Go.Proofs.Ytbkkgaiokmnmgaa.Pr
/- Package bill over this program: cost. -/
namespace Go.Proofs.Ytbkkgaiokmnmgaa.Pr
open Go.RowKit Go.Proofs.YtbkkgaiokmnmgaaW.PrintWords Go.Proofs.YtbkkgaiokmnmgaaW.PrintLast Go.Proofs.YtbkkgaiokmnmgaaW.PrintMore
set_option linter.unusedVariables false
set_option linter.unusedSimpArgs false
/-- What an article costs that has a line: an amount and an error. -/
def costV (p : Int → Bool) (a0 a4 a5 a6 s0 s1 s2 : Int) (l : List S50) : Int × Int :=
  if a0 = 1 then (startV p s0 a4, 0) else if a0 = 2 then money_Times.v a4 (enSum p l 0) 1000 else if a0 = 3 then unitsV p a4 a5 a6 s0 (s1 - s0).toNat else unitsV p a4 a5 a6 s2 (s1 - s2).toNat
def outC (v : Int × Int) : Ending := if v.2 = 0 then .returned (.tuple #[.int .i64 v.1, .bool true]) else .panicked (errP v.2)
theorem outC_ok {v : Int × Int} (h : v.2 = 0) : outC v = .returned (.tuple #[.int .i64 v.1, .bool true]) := if_pos h
theorem outC_bad {v : Int × Int} (h : v.2 ≠ 0) : outC v = .panicked (errP v.2) := if_neg h
set_option maxRecDepth 1000000 in
set_option maxHeartbeats 4000000 in
theorem cost_none (a0 a1 a2 a3 a4 a5 a6 b0 s0 s1 s2 : Int) (v1 v2 v3 : Value) (w : World) (h : a0 < 1 ∨ 4 < a0) :
    Calls Try.prog 64 #[.agg (itemC a0 a1 a2 a3 a4 a5 a6 b0 v1 v2 s0 s1 s2 v3)] w fun e w' => e = .returned (.tuple #[.int .i64 0, .bool false]) ∧ Below w.heap.size w w' := by
  have g1 : (a0 == 1) = false := beq_eq_false_iff_ne.2 (by omega)
  have g2 : (a0 == 2) = false := beq_eq_false_iff_ne.2 (by omega)
  have g3 : (a0 == 3) = false := beq_eq_false_iff_ne.2 (by omega)
  have g4 : (a0 == 4) = false := beq_eq_false_iff_ne.2 (by omega)
  clear h
  unfold itemC
  go_enter Try.func64, Try.ntmps64
  go_wp2
  go_ret2
  exact ⟨rfl, (Below.refl _ _).alloc (Nat.le_refl _) _⟩
set_option maxRecDepth 1000000 in
set_option maxHeartbeats 4000000 in
theorem cost_start (q : Nat) (a0 a1 a2 a3 a4 a5 a6 b0 s0 s1 s2 : Int) (A1 : Option Addr) (c1 : Nat) (l1 : List S99) (A2 : Option Addr) (c2 : Nat) (l2 : List Int) (A3 : Option Addr) (c3 : Nat) (l3 : List S50) (p : Int → Bool) (w : World)
    (hr1 : Kd.C k99 w A1 l1.length l1) (hc1 : l1.length ≤ c1) (hr2 : Kd.C (Kd.int .i64) w A2 l2.length l2) (hc2 : l2.length ≤ c2) (hr3 : Kd.C k50 w A3 l3.length l3) (hc3 : l3.length ≤ c3)
    (hb : ∀ x ∈ l3, 0 ≤ x.f1 ∧ x.f1 ≤ 10000) (hl : l3.length ≤ 48) (h6 : 0 ≤ a6 ∧ a6 ≤ 4611686018427387904)
    (hs : 0 ≤ s0 ∧ s0 + 1 ≤ 4611686018427387904 ∧ s0 ≤ s1 ∧ s1 ≤ 4611686018427387904 ∧ 0 ≤ s2 ∧ s2 ≤ s1)
    (hp : ∀ m, tariff_Applies.f q a0 a1 a2 a3 a4 a5 a6 b0 l1 l2 m = some (p m)) (hk : a0 = 1) :
    Calls Try.prog 64 #[.agg (itemC a0 a1 a2 a3 a4 a5 a6 b0 (.slice A1 l1.length c1) (.slice A2 l2.length c2) s0 s1 s2 (.slice A3 l3.length c3))] w fun e w' => e = outC (costV p a0 a4 a5 a6 s0 s1 s2 l3) ∧ Below w.heap.size w w' := by
  obtain ⟨v, hv⟩ : ∃ v, costV p a0 a4 a5 a6 s0 s1 s2 l3 = v := ⟨_, rfl⟩
  have HU : Aside0 (∀ W, Below w.heap.size w W → Calls Try.prog 102 #[.agg #[.int .i64 a0, .int .i64 a1, .int .i64 a2, .int .i64 a3, .int .i64 a4, .int .i64 a5, .int .i64 a6, .int .i64 b0, .slice A1 l1.length c1, .slice A2 l2.length c2, .int .i64 s0, .int .i64 s1, .int .i64 s2, .slice A3 l3.length c3]] W fun e w' => e = outE v ∧ Below W.heap.size W w') := ⟨fun W hW => by
    have h := start_calls q a0 a1 a2 a3 a4 a5 a6 b0 s0 s1 s2 A1 c1 l1 A2 c2 l2 (.slice A3 l3.length c3) p W (Kd.C_below hr1 hW) hc1 (Kd.C_below hr2 hW) hc2 hs.1 hs.2.1 (hp _)
    rw [← hv, costV, hk]
    rw [if_pos rfl, outE_ok (v := (startV p s0 a4, 0)) rfl]; subst hk; exact h⟩
  rw [hv]
  have g1 : (a0 == 1) = true := beq_iff_eq.2 hk
  have g2 : (a0 == 2) = false := beq_eq_false_iff_ne.2 (by omega)
  have g3 : (a0 == 3) = false := beq_eq_false_iff_ne.2 (by omega)
  have g4 : (a0 == 4) = false := beq_eq_false_iff_ne.2 (by omega)
  have HV : Aside0 (v.2 = 0 ∨ v.2 ≠ 0) := ⟨by omega⟩
  clear hr1 hr2 hr3 hc1 hc2 hc3 hb hl h6 hs hp hv hk
  unfold itemC
  go_enter Try.func64, Try.ntmps64
  rcases HV.out with hv | hv
  · rw [outE_ok hv] at HU
    have HE := Aside0.mk (outC_ok hv)
    clear hv HV
    go_wp2_with (go_at_call 102; refine (HU.out _ (by exact (Below.refl _ _).alloc (Nat.le_refl _) _)).mono ?_; rintro e w2 ⟨rfl, hb2⟩; have HB2 := Aside0.mk hb2; clear hb2)
    go_ret2
    exact ⟨HE.out.symm, ((Below.refl _ _).alloc (Nat.le_refl _) _).trans (HB2.out.mono (by simp))⟩
  · rw [outE_bad hv] at HU
    have HE := Aside0.mk (outC_bad hv)
    clear hv HV
    go_wp2_with (go_at_call 102; refine (HU.out _ (by exact (Below.refl _ _).alloc (Nat.le_refl _) _)).mono ?_; rintro e w2 ⟨rfl, hb2⟩; have HB2 := Aside0.mk hb2; clear hb2)
    first | exact ⟨HE.out.symm, ((Below.refl _ _).alloc (Nat.le_refl _) _).trans (HB2.out.mono (by simp))⟩ | exact ⟨rfl, HE.out.symm, ((Below.refl _ _).alloc (Nat.le_refl _) _).trans (HB2.out.mono (by simp))⟩
set_option maxRecDepth 1000000 in
set_option maxHeartbeats 4000000 in
theorem cost_energy (q : Nat) (a0 a1 a2 a3 a4 a5 a6 b0 s0 s1 s2 : Int) (A1 : Option Addr) (c1 : Nat) (l1 : List S99) (A2 : Option Addr) (c2 : Nat) (l2 : List Int) (A3 : Option Addr) (c3 : Nat) (l3 : List S50) (p : Int → Bool) (w : World)
    (hr1 : Kd.C k99 w A1 l1.length l1) (hc1 : l1.length ≤ c1) (hr2 : Kd.C (Kd.int .i64) w A2 l2.length l2) (hc2 : l2.length ≤ c2) (hr3 : Kd.C k50 w A3 l3.length l3) (hc3 : l3.length ≤ c3)
    (hb : ∀ x ∈ l3, 0 ≤ x.f1 ∧ x.f1 ≤ 10000) (hl : l3.length ≤ 48) (h6 : 0 ≤ a6 ∧ a6 ≤ 4611686018427387904)
    (hs : 0 ≤ s0 ∧ s0 + 1 ≤ 4611686018427387904 ∧ s0 ≤ s1 ∧ s1 ≤ 4611686018427387904 ∧ 0 ≤ s2 ∧ s2 ≤ s1)
    (hp : ∀ m, tariff_Applies.f q a0 a1 a2 a3 a4 a5 a6 b0 l1 l2 m = some (p m)) (hk : a0 = 2) :
    Calls Try.prog 64 #[.agg (itemC a0 a1 a2 a3 a4 a5 a6 b0 (.slice A1 l1.length c1) (.slice A2 l2.length c2) s0 s1 s2 (.slice A3 l3.length c3))] w fun e w' => e = outC (costV p a0 a4 a5 a6 s0 s1 s2 l3) ∧ Below w.heap.size w w' := by
  obtain ⟨v, hv⟩ : ∃ v, costV p a0 a4 a5 a6 s0 s1 s2 l3 = v := ⟨_, rfl⟩
  have HU : Aside0 (∀ W, Below w.heap.size w W → Calls Try.prog 103 #[.agg #[.int .i64 a0, .int .i64 a1, .int .i64 a2, .int .i64 a3, .int .i64 a4, .int .i64 a5, .int .i64 a6, .int .i64 b0, .slice A1 l1.length c1, .slice A2 l2.length c2, .int .i64 s0, .int .i64 s1, .int .i64 s2, .slice A3 l3.length c3]] W fun e w' => e = outE v ∧ Below W.heap.size W w') := ⟨fun W hW => by
    have h := energy_calls q a0 a1 a2 a3 a4 a5 a6 b0 s0 s1 s2 A1 c1 l1 A2 c2 l2 A3 c3 l3 p W (Kd.C_below hr1 hW) hc1 (Kd.C_below hr2 hW) hc2 (Kd.C_below hr3 hW) hc3 hb hl hp
    rw [← hv, costV, hk]
    rw [if_neg (by decide), if_pos rfl]; subst hk; exact h⟩
  rw [hv]
  have g1 : (a0 == 1) = false := beq_eq_false_iff_ne.2 (by omega)
  have g2 : (a0 == 2) = true := beq_iff_eq.2 hk
  have g3 : (a0 == 3) = false := beq_eq_false_iff_ne.2 (by omega)
  have g4 : (a0 == 4) = false := beq_eq_false_iff_ne.2 (by omega)
  have HV : Aside0 (v.2 = 0 ∨ v.2 ≠ 0) := ⟨by omega⟩
  clear hr1 hr2 hr3 hc1 hc2 hc3 hb hl h6 hs hp hv hk
  unfold itemC
  go_enter Try.func64, Try.ntmps64
  rcases HV.out with hv | hv
  · rw [outE_ok hv] at HU
    have HE := Aside0.mk (outC_ok hv)
    clear hv HV
    go_wp2_with (go_at_call 103; refine (HU.out _ (by exact (Below.refl _ _).alloc (Nat.le_refl _) _)).mono ?_; rintro e w2 ⟨rfl, hb2⟩; have HB2 := Aside0.mk hb2; clear hb2)
    go_ret2
    exact ⟨HE.out.symm, ((Below.refl _ _).alloc (Nat.le_refl _) _).trans (HB2.out.mono (by simp))⟩
  · rw [outE_bad hv] at HU
    have HE := Aside0.mk (outC_bad hv)
    clear hv HV
    go_wp2_with (go_at_call 103; refine (HU.out _ (by exact (Below.refl _ _).alloc (Nat.le_refl _) _)).mono ?_; rintro e w2 ⟨rfl, hb2⟩; have HB2 := Aside0.mk hb2; clear hb2)
    first | exact ⟨HE.out.symm, ((Below.refl _ _).alloc (Nat.le_refl _) _).trans (HB2.out.mono (by simp))⟩ | exact ⟨rfl, HE.out.symm, ((Below.refl _ _).alloc (Nat.le_refl _) _).trans (HB2.out.mono (by simp))⟩
set_option maxRecDepth 1000000 in
set_option maxHeartbeats 4000000 in
theorem cost_time (q : Nat) (a0 a1 a2 a3 a4 a5 a6 b0 s0 s1 s2 : Int) (A1 : Option Addr) (c1 : Nat) (l1 : List S99) (A2 : Option Addr) (c2 : Nat) (l2 : List Int) (A3 : Option Addr) (c3 : Nat) (l3 : List S50) (p : Int → Bool) (w : World)
    (hr1 : Kd.C k99 w A1 l1.length l1) (hc1 : l1.length ≤ c1) (hr2 : Kd.C (Kd.int .i64) w A2 l2.length l2) (hc2 : l2.length ≤ c2) (hr3 : Kd.C k50 w A3 l3.length l3) (hc3 : l3.length ≤ c3)
    (hb : ∀ x ∈ l3, 0 ≤ x.f1 ∧ x.f1 ≤ 10000) (hl : l3.length ≤ 48) (h6 : 0 ≤ a6 ∧ a6 ≤ 4611686018427387904)
    (hs : 0 ≤ s0 ∧ s0 + 1 ≤ 4611686018427387904 ∧ s0 ≤ s1 ∧ s1 ≤ 4611686018427387904 ∧ 0 ≤ s2 ∧ s2 ≤ s1)
    (hp : ∀ m, tariff_Applies.f q a0 a1 a2 a3 a4 a5 a6 b0 l1 l2 m = some (p m)) (hk : a0 = 3) :
    Calls Try.prog 64 #[.agg (itemC a0 a1 a2 a3 a4 a5 a6 b0 (.slice A1 l1.length c1) (.slice A2 l2.length c2) s0 s1 s2 (.slice A3 l3.length c3))] w fun e w' => e = outC (costV p a0 a4 a5 a6 s0 s1 s2 l3) ∧ Below w.heap.size w w' := by
  obtain ⟨v, hv⟩ : ∃ v, costV p a0 a4 a5 a6 s0 s1 s2 l3 = v := ⟨_, rfl⟩
  have HU : Aside0 (∀ W, Below w.heap.size w W → Calls Try.prog 104 #[.agg #[.int .i64 a0, .int .i64 a1, .int .i64 a2, .int .i64 a3, .int .i64 a4, .int .i64 a5, .int .i64 a6, .int .i64 b0, .slice A1 l1.length c1, .slice A2 l2.length c2, .int .i64 s0, .int .i64 s1, .int .i64 s2, .slice A3 l3.length c3]] W fun e w' => e = outE v ∧ Below W.heap.size W w') := ⟨fun W hW => by
    have h := time_calls q a0 a1 a2 a3 a4 a5 a6 b0 s0 s1 s2 A1 c1 l1 A2 c2 l2 (.slice A3 l3.length c3) p W (Kd.C_below hr1 hW) hc1 (Kd.C_below hr2 hW) hc2 hs.1 hs.2.2.1 hs.2.2.2.1 h6 hp
    rw [← hv, costV, hk]
    rw [if_neg (by decide), if_neg (by decide), if_pos rfl]; subst hk; exact h⟩
  rw [hv]
  have g1 : (a0 == 1) = false := beq_eq_false_iff_ne.2 (by omega)
  have g2 : (a0 == 2) = false := beq_eq_false_iff_ne.2 (by omega)
  have g3 : (a0 == 3) = true := beq_iff_eq.2 hk
  have g4 : (a0 == 4) = false := beq_eq_false_iff_ne.2 (by omega)
  have HV : Aside0 (v.2 = 0 ∨ v.2 ≠ 0) := ⟨by omega⟩
  clear hr1 hr2 hr3 hc1 hc2 hc3 hb hl h6 hs hp hv hk
  unfold itemC
  go_enter Try.func64, Try.ntmps64
  rcases HV.out with hv | hv
  · rw [outE_ok hv] at HU
    have HE := Aside0.mk (outC_ok hv)
    clear hv HV
    go_wp2_with (go_at_call 104; refine (HU.out _ (by exact (Below.refl _ _).alloc (Nat.le_refl _) _)).mono ?_; rintro e w2 ⟨rfl, hb2⟩; have HB2 := Aside0.mk hb2; clear hb2)
    go_ret2
    exact ⟨HE.out.symm, ((Below.refl _ _).alloc (Nat.le_refl _) _).trans (HB2.out.mono (by simp))⟩
  · rw [outE_bad hv] at HU
    have HE := Aside0.mk (outC_bad hv)
    clear hv HV
    go_wp2_with (go_at_call 104; refine (HU.out _ (by exact (Below.refl _ _).alloc (Nat.le_refl _) _)).mono ?_; rintro e w2 ⟨rfl, hb2⟩; have HB2 := Aside0.mk hb2; clear hb2)
    first | exact ⟨HE.out.symm, ((Below.refl _ _).alloc (Nat.le_refl _) _).trans (HB2.out.mono (by simp))⟩ | exact ⟨rfl, HE.out.symm, ((Below.refl _ _).alloc (Nat.le_refl _) _).trans (HB2.out.mono (by simp))⟩
set_option maxRecDepth 1000000 in
set_option maxHeartbeats 4000000 in
theorem cost_idle (q : Nat) (a0 a1 a2 a3 a4 a5 a6 b0 s0 s1 s2 : Int) (A1 : Option Addr) (c1 : Nat) (l1 : List S99) (A2 : Option Addr) (c2 : Nat) (l2 : List Int) (A3 : Option Addr) (c3 : Nat) (l3 : List S50) (p : Int → Bool) (w : World)
    (hr1 : Kd.C k99 w A1 l1.length l1) (hc1 : l1.length ≤ c1) (hr2 : Kd.C (Kd.int .i64) w A2 l2.length l2) (hc2 : l2.length ≤ c2) (hr3 : Kd.C k50 w A3 l3.length l3) (hc3 : l3.length ≤ c3)
    (hb : ∀ x ∈ l3, 0 ≤ x.f1 ∧ x.f1 ≤ 10000) (hl : l3.length ≤ 48) (h6 : 0 ≤ a6 ∧ a6 ≤ 4611686018427387904)
    (hs : 0 ≤ s0 ∧ s0 + 1 ≤ 4611686018427387904 ∧ s0 ≤ s1 ∧ s1 ≤ 4611686018427387904 ∧ 0 ≤ s2 ∧ s2 ≤ s1)
    (hp : ∀ m, tariff_Applies.f q a0 a1 a2 a3 a4 a5 a6 b0 l1 l2 m = some (p m)) (hk : a0 = 4) :
    Calls Try.prog 64 #[.agg (itemC a0 a1 a2 a3 a4 a5 a6 b0 (.slice A1 l1.length c1) (.slice A2 l2.length c2) s0 s1 s2 (.slice A3 l3.length c3))] w fun e w' => e = outC (costV p a0 a4 a5 a6 s0 s1 s2 l3) ∧ Below w.heap.size w w' := by
  obtain ⟨v, hv⟩ : ∃ v, costV p a0 a4 a5 a6 s0 s1 s2 l3 = v := ⟨_, rfl⟩
  have HU : Aside0 (∀ W, Below w.heap.size w W → Calls Try.prog 105 #[.agg #[.int .i64 a0, .int .i64 a1, .int .i64 a2, .int .i64 a3, .int .i64 a4, .int .i64 a5, .int .i64 a6, .int .i64 b0, .slice A1 l1.length c1, .slice A2 l2.length c2, .int .i64 s0, .int .i64 s1, .int .i64 s2, .slice A3 l3.length c3]] W fun e w' => e = outE v ∧ Below W.heap.size W w') := ⟨fun W hW => by
    have h := idle_calls q a0 a1 a2 a3 a4 a5 a6 b0 s0 s1 s2 A1 c1 l1 A2 c2 l2 (.slice A3 l3.length c3) p W (Kd.C_below hr1 hW) hc1 (Kd.C_below hr2 hW) hc2 hs.2.2.2.2.1 hs.2.2.2.2.2 hs.2.2.2.1 h6 hp
    rw [← hv, costV, hk]
    rw [if_neg (by decide), if_neg (by decide), if_neg (by decide)]; subst hk; exact h⟩
  rw [hv]
  have g1 : (a0 == 1) = false := beq_eq_false_iff_ne.2 (by omega)
  have g2 : (a0 == 2) = false := beq_eq_false_iff_ne.2 (by omega)
  have g3 : (a0 == 3) = false := beq_eq_false_iff_ne.2 (by omega)
  have g4 : (a0 == 4) = true := beq_iff_eq.2 hk
  have HV : Aside0 (v.2 = 0 ∨ v.2 ≠ 0) := ⟨by omega⟩
  clear hr1 hr2 hr3 hc1 hc2 hc3 hb hl h6 hs hp hv hk
  unfold itemC
  go_enter Try.func64, Try.ntmps64
  rcases HV.out with hv | hv
  · rw [outE_ok hv] at HU
    have HE := Aside0.mk (outC_ok hv)
    clear hv HV
    go_wp2_with (go_at_call 105; refine (HU.out _ (by exact (Below.refl _ _).alloc (Nat.le_refl _) _)).mono ?_; rintro e w2 ⟨rfl, hb2⟩; have HB2 := Aside0.mk hb2; clear hb2)
    go_ret2
    exact ⟨HE.out.symm, ((Below.refl _ _).alloc (Nat.le_refl _) _).trans (HB2.out.mono (by simp))⟩
  · rw [outE_bad hv] at HU
    have HE := Aside0.mk (outC_bad hv)
    clear hv HV
    go_wp2_with (go_at_call 105; refine (HU.out _ (by exact (Below.refl _ _).alloc (Nat.le_refl _) _)).mono ?_; rintro e w2 ⟨rfl, hb2⟩; have HB2 := Aside0.mk hb2; clear hb2)
    first | exact ⟨HE.out.symm, ((Below.refl _ _).alloc (Nat.le_refl _) _).trans (HB2.out.mono (by simp))⟩ | exact ⟨rfl, HE.out.symm, ((Below.refl _ _).alloc (Nat.le_refl _) _).trans (HB2.out.mono (by simp))⟩
theorem cost_calls (q : Nat) (a0 a1 a2 a3 a4 a5 a6 b0 s0 s1 s2 : Int) (A1 : Option Addr) (c1 : Nat) (l1 : List S99) (A2 : Option Addr) (c2 : Nat) (l2 : List Int) (A3 : Option Addr) (c3 : Nat) (l3 : List S50) (p : Int → Bool) (w : World)
    (hr1 : Kd.C k99 w A1 l1.length l1) (hc1 : l1.length ≤ c1) (hr2 : Kd.C (Kd.int .i64) w A2 l2.length l2) (hc2 : l2.length ≤ c2) (hr3 : Kd.C k50 w A3 l3.length l3) (hc3 : l3.length ≤ c3)
    (hb : ∀ x ∈ l3, 0 ≤ x.f1 ∧ x.f1 ≤ 10000) (hl : l3.length ≤ 48) (h6 : 0 ≤ a6 ∧ a6 ≤ 4611686018427387904)
    (hs : 0 ≤ s0 ∧ s0 + 1 ≤ 4611686018427387904 ∧ s0 ≤ s1 ∧ s1 ≤ 4611686018427387904 ∧ 0 ≤ s2 ∧ s2 ≤ s1)
    (hp : ∀ m, tariff_Applies.f q a0 a1 a2 a3 a4 a5 a6 b0 l1 l2 m = some (p m)) (hk : 1 ≤ a0 ∧ a0 ≤ 4) :
    Calls Try.prog 64 #[.agg (itemC a0 a1 a2 a3 a4 a5 a6 b0 (.slice A1 l1.length c1) (.slice A2 l2.length c2) s0 s1 s2 (.slice A3 l3.length c3))] w fun e w' => e = outC (costV p a0 a4 a5 a6 s0 s1 s2 l3) ∧ Below w.heap.size w w' := by
  by_cases k1 : a0 = 1
  · exact cost_start q a0 a1 a2 a3 a4 a5 a6 b0 s0 s1 s2 A1 c1 l1 A2 c2 l2 A3 c3 l3 p w hr1 hc1 hr2 hc2 hr3 hc3 hb hl h6 hs hp k1
  by_cases k2 : a0 = 2
  · exact cost_energy q a0 a1 a2 a3 a4 a5 a6 b0 s0 s1 s2 A1 c1 l1 A2 c2 l2 A3 c3 l3 p w hr1 hc1 hr2 hc2 hr3 hc3 hb hl h6 hs hp k2
  by_cases k3 : a0 = 3
  · exact cost_time q a0 a1 a2 a3 a4 a5 a6 b0 s0 s1 s2 A1 c1 l1 A2 c2 l2 A3 c3 l3 p w hr1 hc1 hr2 hc2 hr3 hc3 hb hl h6 hs hp k3
  exact cost_idle q a0 a1 a2 a3 a4 a5 a6 b0 s0 s1 s2 A1 c1 l1 A2 c2 l2 A3 c3 l3 p w hr1 hc1 hr2 hc2 hr3 hc3 hb hl h6 hs hp (by omega)
end Go.Proofs.Ytbkkgaiokmnmgaa.Pr
/- Validity of articles, tariffs and sessions, and when articles apply: what the printed functions answer, in plain words. -/
namespace Go.Proofs.Ytbkkgaiokmnmgaa.Pr
open Go.RowKit Go.Proofs.YtbkkgaiokmnmgaaW.PrintWords Go.Proofs.YtbkkgaiokmnmgaaW.PrintLast Go.Proofs.YtbkkgaiokmnmgaaW.PrintMore
set_option linter.unusedVariables false
set_option linter.unusedSimpArgs false
/-- An article is valid. -/
abbrev ArtP (a0 a1 a2 a3 a4 a5 a6 : Int) : Prop :=
  (1 ≤ a0 ∧ a0 ≤ 6) ∧ (0 ≤ a4 ∧ a4 ≤ 1000000) ∧ (1 ≤ a1 ∧ a1 ≤ 7) ∧ (0 ≤ a2 ∧ a2 < a3 ∧ a3 ≤ 1440) ∧
    (((a0 = 3 ∨ a0 = 4) ∧ (1 ≤ a5 ∧ a5 ≤ 1440) ∧ (0 ≤ a6 ∧ a6 ≤ 1440)) ∨ (a0 ≠ 3 ∧ a0 ≠ 4 ∧ a5 = 0 ∧ a6 = 0 ∧ (a0 ≤ 2 ∨ (5 ≤ a0 ∧ a1 = 7 ∧ a2 = 0 ∧ a3 = 1440 ∧ (a0 = 5 ∨ a4 ≤ 10000)))))
theorem between_f (a b c : Int) : tariff_between.f a b c = some (decide (b ≤ a ∧ a ≤ c)) := by
  unfold tariff_between.f
  by_cases h : b ≤ a <;> simp [h]
theorem in_f (a b c : Int) : bill_in.f a b c = some (decide (b ≤ a ∧ a ≤ c)) := by
  unfold bill_in.f
  by_cases h : a ≥ b
  · rw [if_pos h]; exact congrArg some (by rw [decide_eq_decide]; omega)
  · rw [if_neg h]; exact congrArg some (decide_eq_false (by omega)).symm
theorem isLong_f (a : Int) : tariff_isLong.f a = some (decide (a = 3 ∨ a = 4)) := by
  unfold tariff_isLong.f
  by_cases h : a = 3
  · rw [if_pos h]; exact congrArg some (decide_eq_true (Or.inl h)).symm
  · rw [if_neg h]; exact congrArg some (by rw [Bool.eq_iff_iff, beq_iff_eq, decide_eq_true_eq]; omega)
theorem isFlat_f (a : Int) : tariff_isFlat.f a = some (decide (a = 5 ∨ a = 6)) := by
  unfold tariff_isFlat.f
  by_cases h : a = 5
  · rw [if_pos h]; exact congrArg some (decide_eq_true (Or.inl h)).symm
  · rw [if_neg h]; exact congrArg some (by rw [Bool.eq_iff_iff, beq_iff_eq, decide_eq_true_eq]; omega)
theorem some_no {p : Prop} [Decidable p] (h : ¬ p) : some false = some (decide p) := congrArg some (decide_eq_false h).symm
theorem some_yes {p : Prop} [Decidable p] (h : p) : some true = some (decide p) := congrArg some (decide_eq_true h).symm
theorem isArticle_f (k : Nat) (a0 a1 a2 a3 a4 a5 a6 : Int) : tariff_isArticle.f (k + 2) a0 a1 a2 a3 a4 a5 a6 = some (decide (ArtP a0 a1 a2 a3 a4 a5 a6)) := by
  unfold tariff_isArticle.f
  simp only [between_f, Option.bind_some, tariff_isArticle.j0, tariff_isArticle.j1, isLong_f, isFlat_f, decide_eq_true_eq, if_true]
  by_cases h1 : 1 ≤ a0 ∧ a0 ≤ 6
  case neg => rw [if_neg h1]; exact some_no (fun h => h1 h.1)
  rw [if_pos h1]
  by_cases h2 : 0 ≤ a4 ∧ a4 ≤ 1000000
  case neg => rw [if_neg h2]; exact some_no (fun h => h2 h.2.1)
  rw [if_pos h2]
  by_cases h3 : 1 ≤ a1 ∧ a1 ≤ 7
  case neg => rw [if_neg h3]; exact some_no (fun h => h3 h.2.2.1)
  rw [if_pos h3]
  by_cases h4 : a2 < 0
  · rw [if_pos h4]; exact some_no (fun h => by have := h.2.2.2.1; omega)
  rw [if_neg h4]
  by_cases h5 : a2 ≥ a3
  · rw [if_pos h5]; exact some_no (fun h => by have := h.2.2.2.1; omega)
  rw [if_neg h5]
  by_cases h6 : a3 > 1440
  · rw [if_pos h6]; exact some_no (fun h => by have := h.2.2.2.1; omega)
  rw [if_neg h6]
  by_cases h7 : a0 = 3 ∨ a0 = 4
  · rw [if_pos h7]
    by_cases h8 : 1 ≤ a5 ∧ a5 ≤ 1440
    · rw [if_pos h8]; exact congrArg some (by rw [decide_eq_decide]; unfold ArtP; omega)
    · rw [if_neg h8]; exact some_no (by unfold ArtP; omega)
  rw [if_neg h7]
  by_cases h8 : a5 = 0
  case neg => rw [if_neg h8]; exact some_no (by unfold ArtP; omega)
  rw [if_pos h8]
  by_cases h9 : a6 = 0
  case neg => rw [if_pos (bne_iff_ne.2 h9)]; exact some_no (by unfold ArtP; omega)
  rw [if_neg (by rw [h9]; decide)]
  by_cases h10 : a0 = 5 ∨ a0 = 6
  case neg => rw [if_neg h10]; exact some_yes (by unfold ArtP; omega)
  rw [if_pos h10]
  by_cases h11 : a1 = 7
  case neg => rw [if_neg h11]; exact some_no (by unfold ArtP; omega)
  rw [if_pos h11]
  by_cases h12 : wrap64 (a3 - a2) = 1440
  case neg => rw [if_neg h12]; exact some_no (by unfold ArtP; unfold wrap64 at h12; omega)
  rw [if_pos h12]
  unfold wrap64 at h12
  by_cases h13 : a0 = 5
  · rw [if_pos h13]; exact some_yes (by unfold ArtP; omega)
  · rw [if_neg h13]; exact congrArg some (by rw [decide_eq_decide]; unfold ArtP; omega)

/-! ### tariffs -/
def artOK (a : S26) : Bool := decide (ArtP a.f0 a.f1 a.f2 a.f3 a.f4 a.f5 a.f6)
def taxes : List S26 → Nat
  | [] => 0
  | a :: l => (if a.f0 = 6 then 1 else 0) + taxes l
def tvalB (n : ByteArray) (l : List S26) : Bool := l.all artOK && (decide (taxes l ≤ 1) && (decide (l.length ≤ 12) && nameB n))
theorem drop_rdA {l : List S26} {i : Int} (h0 : 0 ≤ i) (h1 : i < (l.length : Int)) : l.drop i.toNat = rd_T26 l i :: l.drop (i + 1).toNat := by
  have hl : i.toNat < l.length := by omega
  rw [List.drop_eq_getElem_cons hl, show (i + 1).toNat = i.toNat + 1 by omega]
  unfold rd_T26
  rw [List.getD_eq_getElem?_getD, List.getElem?_eq_getElem hl]
  rfl
theorem wrap_fit64 {x : Int} (h0 : -9223372036854775808 ≤ x) (h1 : x ≤ 9223372036854775807) : wrap64 x = x := by unfold wrap64; omega
theorem tval_l0 (n : ByteArray) (l : List S26) (hl : l.length ≤ 9223372036854775807) : ∀ (d k : Nat) (i t : Int), 0 ≤ i → i ≤ l.length → (l.length : Int) - i = d → d + 2 < k → 0 ≤ t → t ≤ i →
    tariff_Valid.l0 k t l (l.length : Int) i n l = some ((l.drop i.toNat).all artOK && (decide (t + taxes (l.drop i.toNat) ≤ 1) && (decide (l.length ≤ 12) && nameB n))) := by
  intro d
  induction d with
  | zero =>
    intro k i t h0 h1 hd hk ht0 ht
    obtain ⟨k, rfl⟩ : ∃ m, k = m + 1 := ⟨k - 1, by omega⟩
    simp only [tariff_Valid.l0]
    rw [if_neg (by omega), List.drop_eq_nil_of_le (by omega), List.all_nil, Bool.true_and]
    by_cases c1 : t ≤ 1
    · rw [if_pos c1, decide_eq_true (show t + (taxes [] : Int) ≤ 1 by simp [taxes]; omega), Bool.true_and]
      by_cases c2 : (l.length : Int) ≤ 12
      · rw [if_pos c2, decide_eq_true (show l.length ≤ 12 by omega), Bool.true_and]; rfl
      · rw [if_neg c2, decide_eq_false (show ¬ l.length ≤ 12 by omega), Bool.false_and]
    · rw [if_neg c1, decide_eq_false (show ¬ t + (taxes [] : Int) ≤ 1 by simp [taxes]; omega), Bool.false_and]
  | succ d ih =>
    intro k i t h0 h1 hd hk ht0 ht
    obtain ⟨k, rfl⟩ : ∃ m, k = m + 1 := ⟨k - 1, by omega⟩
    have hlt : i < (l.length : Int) := by omega
    rw [drop_rdA h0 hlt, List.all_cons, taxes]
    simp only [tariff_Valid.l0]
    rw [if_pos hlt, if_pos h0, if_pos hlt]
    obtain ⟨j, hj⟩ : ∃ j, k = j + 2 := ⟨k - 2, by omega⟩
    rw [hj, isArticle_f, ← hj, Option.bind_some]
    show (if artOK (rd_T26 l i) = true then _ else _) = _
    cases c0 : artOK (rd_T26 l i) with
    | false => rw [if_neg (by simp), Bool.false_and, Bool.false_and]
    | true =>
    rw [if_pos rfl, Bool.true_and, wrap_fit64 (x := i + 1) (by omega) (by omega)]
    by_cases c1 : (rd_T26 l i).f0 = 6
    · rw [if_pos c1, if_pos c1, wrap_fit64 (x := t + 1) (by omega) (by omega), ih k (i + 1) (t + 1) (by omega) (by omega) (by omega) (by omega) (by omega) (by omega)]
      rw [show t + ((1 + taxes (l.drop (i + 1).toNat) : Nat) : Int) = t + 1 + taxes (l.drop (i + 1).toNat) by omega]
    · rw [if_neg c1, if_neg c1, ih k (i + 1) t (by omega) (by omega) (by omega) (by omega) (by omega) (by omega), Nat.zero_add]
theorem tval_f (k : Nat) (n : ByteArray) (l : List S26) (hl : l.length ≤ 9223372036854775807) (hk : l.length + 2 < k) : tariff_Valid.f k n l = some (tvalB n l) := by
  unfold tariff_Valid.f tvalB
  rw [tval_l0 n l hl l.length k 0 0 (by omega) (by omega) (by omega) hk (by omega) (by omega), show decide ((0 : Int) + (taxes (l.drop (0 : Int).toNat) : Int) ≤ 1) = decide (taxes l ≤ 1) from decide_eq_decide.2 (by simp; omega)]
  rfl

/-! ### sessions -/
def slOK (e : Int) : Int → List S50 → Bool
  | _, [] => true
  | least, x :: l => decide (least ≤ x.f0 ∧ x.f0 ≤ e - 1) && (decide (0 ≤ x.f1 ∧ x.f1 ≤ 10000) && slOK e (x.f0 + 1) l)
abbrev SesP (s0 s1 s2 : Int) : Prop := 0 ≤ s0 ∧ (1 ≤ s1 - s0 ∧ s1 - s0 ≤ 2880) ∧ s1 ≤ 52560000 ∧ (s0 ≤ s2 ∧ s2 ≤ s1)
def svalB (s0 s1 s2 : Int) (l : List S50) : Bool := decide (SesP s0 s1 s2) && (decide (l.length ≤ 48) && slOK s2 s0 l)
theorem drop_rdL {l : List S50} {i : Int} (h0 : 0 ≤ i) (h1 : i < (l.length : Int)) : l.drop i.toNat = rd_T50 l i :: l.drop (i + 1).toNat := by
  have hl : i.toNat < l.length := by omega
  rw [List.drop_eq_getElem_cons hl, show (i + 1).toNat = i.toNat + 1 by omega]
  unfold rd_T50
  rw [List.getD_eq_getElem?_getD, List.getElem?_eq_getElem hl]
  rfl
theorem sval_l0 (s0 s1 s2 : Int) (l : List S50) (h0s : 0 ≤ s0) (h2s : s0 ≤ s2 ∧ s2 ≤ 52560000) (hl : l.length ≤ 48) : ∀ (d k : Nat) (i least : Int), 0 ≤ i → i ≤ l.length → (l.length : Int) - i = d → d < k → 0 ≤ least →
    bill_Valid.l0 k least l (l.length : Int) i s0 s1 s2 l = some (slOK s2 least (l.drop i.toNat)) := by
  intro d
  induction d with
  | zero =>
    intro k i t h0 h1 hd hk ht
    obtain ⟨k, rfl⟩ : ∃ m, k = m + 1 := ⟨k - 1, by omega⟩
    simp only [bill_Valid.l0]
    rw [if_neg (by omega), List.drop_eq_nil_of_le (by omega)]
    rfl
  | succ d ih =>
    intro k i t h0 h1 hd hk ht
    obtain ⟨k, rfl⟩ : ∃ m, k = m + 1 := ⟨k - 1, by omega⟩
    have hlt : i < (l.length : Int) := by omega
    rw [drop_rdL h0 hlt, slOK]
    simp only [bill_Valid.l0]
    rw [if_pos hlt, if_pos h0, if_pos hlt, in_f, Option.bind_some, wrap_fit64 (x := s2 - 1) (by omega) (by omega)]
    simp only [decide_eq_true_eq]
    by_cases c0 : t ≤ (rd_T50 l i).f0 ∧ (rd_T50 l i).f0 ≤ s2 - 1
    · rw [if_pos c0, decide_eq_true c0, Bool.true_and, in_f, Option.bind_some]
      simp only [decide_eq_true_eq]
      by_cases c1 : 0 ≤ (rd_T50 l i).f1 ∧ (rd_T50 l i).f1 ≤ 10000
      · rw [if_pos c1, decide_eq_true c1, Bool.true_and, wrap_fit64 (x := i + 1) (by omega) (by omega)]
        rw [wrap_fit64 (x := (rd_T50 l i).f0 + 1) (by omega) (by omega)]
        exact ih k (i + 1) _ (by omega) (by omega) (by omega) (by omega) (by omega)
      · rw [if_neg c1, decide_eq_false c1, Bool.false_and]
    · rw [if_neg c0, decide_eq_false c0, Bool.false_and]
theorem sval_f (k : Nat) (s0 s1 s2 : Int) (l : List S50) (hk : 60 ≤ k) : bill_Valid.f k s0 s1 s2 l = some (svalB s0 s1 s2 l) := by
  obtain ⟨k, rfl⟩ : ∃ m, k = m + 1 := ⟨k - 1, by omega⟩
  unfold bill_Valid.f svalB
  simp only [in_f, Option.bind_some, bill_Valid.j0, decide_eq_true_eq, if_true]
  by_cases h1 : s0 < 0
  · rw [if_pos h1, decide_eq_false (show ¬ SesP s0 s1 s2 from fun h => by have := h.1; omega), Bool.false_and]
  rw [if_neg h1]
  by_cases h2 : 1 ≤ wrap64 (s1 - s0) ∧ wrap64 (s1 - s0) ≤ 2880
  case neg => rw [if_neg h2, decide_eq_false (show ¬ SesP s0 s1 s2 from fun h => h2 (by obtain ⟨a, b, c, d⟩ := h; rw [wrap_fit64 (by omega) (by omega)]; exact b)), Bool.false_and]
  rw [if_pos h2]
  by_cases h3 : s1 > 52560000
  · rw [if_pos h3, decide_eq_false (show ¬ SesP s0 s1 s2 from fun h => by have := h.2.2.1; omega), Bool.false_and]
  rw [if_neg h3]
  by_cases h4 : s0 ≤ s2 ∧ s2 ≤ s1
  case neg => rw [if_neg h4, decide_eq_false (show ¬ SesP s0 s1 s2 from fun h => h4 h.2.2.2), Bool.false_and]
  rw [if_pos h4, decide_eq_true (show SesP s0 s1 s2 from ⟨by omega, by rw [wrap_fit64 (by omega) (by omega)] at h2; exact h2, by omega, h4⟩), Bool.true_and]
  by_cases h5 : (l.length : Int) > 48
  · rw [if_pos h5, decide_eq_false (show ¬ l.length ≤ 48 by omega), Bool.false_and]
  · rw [if_neg h5, decide_eq_true (show l.length ≤ 48 by omega), Bool.true_and, sval_l0 s0 s1 s2 l (by omega) (by omega) (by omega) l.length k 0 s0 (by omega) (by omega) (by omega) (by omega) (by omega)]
    rfl

/-! ### articles apply -/
def appB (a : S26) (o : Int) (cs : List S99) (hs : List Int) (m : Int) : Bool := (tariff_Applies.f 9 a.f0 a.f1 a.f2 a.f3 a.f4 a.f5 a.f6 o cs hs m).getD false
theorem app_some (k : Nat) (a0 a1 a2 a3 a4 a5 a6 : Int) (o : Int) (cs : List S99) (hs : List Int) (m : Int) : tariff_Applies.f (k + 2) a0 a1 a2 a3 a4 a5 a6 o cs hs m = tariff_Applies.f 9 a0 a1 a2 a3 a4 a5 a6 o cs hs m ∧ (tariff_Applies.f (k + 2) a0 a1 a2 a3 a4 a5 a6 o cs hs m).isSome = true := by
  unfold tariff_Applies.f
  rw [isArticle_f, isArticle_f 7]
  refine ⟨rfl, ?_⟩
  obtain ⟨⟨x, y, z⟩, hx⟩ : ∃ x, days_Local.f o cs hs m = some x := by unfold days_Local.f; split <;> exact ⟨_, rfl⟩
  rw [hx, Option.bind_some]
  dsimp only
  refine isSome_ite ?_ rfl
  rw [Option.bind_some]
  refine isSome_ite ?_ rfl
  rw [between_f, Option.bind_some]
  refine isSome_ite ?_ rfl
  obtain ⟨u, v, hu, hu0⟩ : ∃ u v, days_Type.f o cs hs x = some (u, v) ∧ 0 ≤ u := by
    unfold days_Type.f
    split
    · refine ⟨_, _, rfl, ?_⟩
      split
      · decide
      · unfold weekOf; split
        · decide
        · split <;> decide
    · exact ⟨_, _, rfl, by decide⟩
  rw [hu, Option.bind_some]
  dsimp only
  refine isSome_ite ?_ rfl
  rw [if_pos hu0]
  rfl
theorem app_f (k : Nat) (hk : 2 ≤ k) (a : S26) (o : Int) (cs : List S99) (hs : List Int) (m : Int) : tariff_Applies.f k a.f0 a.f1 a.f2 a.f3 a.f4 a.f5 a.f6 o cs hs m = some (appB a o cs hs m) := by
  obtain ⟨k, rfl⟩ : ∃ m, k = m + 2 := ⟨k - 2, by omega⟩
  have h := app_some k a.f0 a.f1 a.f2 a.f3 a.f4 a.f5 a.f6 o cs hs m
  unfold appB
  rw [← h.1]
  exact getD_of_some h.2
end Go.Proofs.Ytbkkgaiokmnmgaa.Pr
/- Package bill over this program: Line. -/
namespace Go.Proofs.Ytbkkgaiokmnmgaa.Pr
open Go.RowKit Go.Proofs.YtbkkgaiokmnmgaaW.PrintWords Go.Proofs.YtbkkgaiokmnmgaaW.PrintLast Go.Proofs.YtbkkgaiokmnmgaaW.PrintMore
set_option linter.unusedVariables false
set_option linter.unusedSimpArgs false
/-- What Line answers of valid arguments. -/
def lineG (a : S26) (o : Int) (cs : List S99) (hs : List Int) (s0 s1 s2 : Int) (l : List S50) : Int × Int :=
  if 1 ≤ a.f0 ∧ a.f0 ≤ 4 then (if (costV (appB a o cs hs) a.f0 a.f4 a.f5 a.f6 s0 s1 s2 l).2 = 0 then ((costV (appB a o cs hs) a.f0 a.f4 a.f5 a.f6 s0 s1 s2 l).1, 0) else (0, (costV (appB a o cs hs) a.f0 a.f4 a.f5 a.f6 s0 s1 s2 l).2)) else (0, 0)
def lineV (a : S26) (o : Int) (cs : List S99) (hs : List Int) (s0 s1 s2 : Int) (l : List S50) : Int × Int :=
  if artOK a = true ∧ dvalidB o cs hs = true ∧ svalB s0 s1 s2 l = true then lineG a o cs hs s0 s1 s2 l else (0, 1)
def bill_Line.f (a0_0 a0_1 a0_2 a0_3 a0_4 a0_5 a0_6 a1_0 : Int) (l1_1 : List S99) (l1_2 : List Int) (a2_0 a2_1 a2_2 : Int) (l2_3 : List S50) : Option (Int × Int) :=
  some (lineV ⟨a0_0, a0_1, a0_2, a0_3, a0_4, a0_5, a0_6⟩ a1_0 l1_1 l1_2 a2_0 a2_1 a2_2 l2_3)
theorem name_t : nameB ⟨#[116]⟩ = true := by kernel_rfl
theorem tval_one (a : S26) : tvalB ⟨#[116]⟩ [a] = artOK a := by
  unfold tvalB
  rw [name_t, decide_eq_true (show taxes [a] ≤ 1 by unfold taxes taxes; split <;> omega)]
  simp
theorem slOK_mem (e : Int) : ∀ (l : List S50) (t : Int), slOK e t l = true → ∀ x ∈ l, 0 ≤ x.f1 ∧ x.f1 ≤ 10000
  | [], _, _, x, hx => by cases hx
  | y :: l, t, h, x, hx => by
    unfold slOK at h
    rw [Bool.and_eq_true, Bool.and_eq_true, decide_eq_true_eq, decide_eq_true_eq] at h
    rcases List.mem_cons.1 hx with rfl | hx
    · exact h.2.1
    · exact slOK_mem e l _ h.2.2 x hx
theorem six_blocks (w : World) (o1 o2 o3 o4 o5 o6 : Obj) : ∃ W, (((((w.alloc o1).alloc o2).alloc o3).alloc o4).alloc o5).alloc o6 = W ∧ Below w.heap.size w W ∧ W.heap.size = w.heap.size + 6 ∧
    W.heap[w.heap.size]? = some o1 ∧ W.heap[w.heap.size + 1]? = some o2 ∧ W.heap[w.heap.size + 1 + 1]? = some o3 ∧ W.heap[w.heap.size + 1 + 1 + 1]? = some o4 ∧ W.heap[w.heap.size + 1 + 1 + 1 + 1]? = some o5 := by
  obtain ⟨W0, h0, h1, h2, h3, h4, h5, h6, h7⟩ := five_blocks w o1 o2 o3 o4 o5
  rw [h0]
  have old : ∀ (n : Nat) (o' : Obj), W0.heap[n]? = some o' → (W0.alloc o6).heap[n]? = some o' := fun n o' h => (Below.heap_alloc W0 o6 n (Array.getElem?_eq_some_iff.1 h).1).trans h
  exact ⟨_, rfl, h1.alloc (by omega) _, by simp; omega, old _ _ h3, old _ _ h4, old _ _ h5, old _ _ h6, old _ _ h7⟩
theorem art_one (B : Nat) (a : S26) (W : World) (h : W.heap[B]? = some (.cells #[.int .i64 a.f0, .int .i64 a.f1, .int .i64 a.f2, .int .i64 a.f3, .int .i64 a.f4, .int .i64 a.f5, .int .i64 a.f6] 26 (0, 0))) : Kd.C k26 W (some ⟨B, 0, none⟩) [a].length [a] := by
  refine ⟨rfl, by simp, fun _ => ⟨_, rfl, fun j p hp => ?_⟩⟩
  cases j with
  | succ j => simp at hp
  | zero =>
    obtain rfl : a = p := by simpa using hp
    refine ⟨_, rfl, k26_mk W a, fun i u hu => ?_⟩
    rw [show (Addr.add ⟨B, 0, none⟩ (0 * k26.sz + i)) = ⟨B, i, none⟩ by simp only [Addr.add, Nat.zero_mul, Nat.zero_add]; split <;> simp_all]
    rw [blk_cell h i]
    simpa using hu
theorem sval_iff {s0 s1 s2 : Int} {l : List S50} (h : svalB s0 s1 s2 l = true) : SesP s0 s1 s2 ∧ l.length ≤ 48 ∧ slOK s2 s0 l = true := by
  unfold svalB at h
  rw [Bool.and_eq_true, Bool.and_eq_true, decide_eq_true_eq, decide_eq_true_eq] at h
  exact h
theorem cost_at (a0 a1 a2 a3 a4 a5 a6 o s0 s1 s2 : Int) (A1 : Option Addr) (c1 : Nat) (l1 : List S99) (A2 : Option Addr) (c2 : Nat) (l2 : List Int) (A3 : Option Addr) (c3 : Nat) (l3 : List S50) (w : World)
    (hr1 : Kd.C k99 w A1 l1.length l1) (hc1 : l1.length ≤ c1) (hr2 : Kd.C (Kd.int .i64) w A2 l2.length l2) (hc2 : l2.length ≤ c2) (hr3 : Kd.C k50 w A3 l3.length l3) (hc3 : l3.length ≤ c3)
    (ha : artOK ⟨a0, a1, a2, a3, a4, a5, a6⟩ = true) (hs : svalB s0 s1 s2 l3 = true) (hk : 1 ≤ a0 ∧ a0 ≤ 4) :
    Calls Try.prog 64 #[.agg #[.int .i64 a0, .int .i64 a1, .int .i64 a2, .int .i64 a3, .int .i64 a4, .int .i64 a5, .int .i64 a6, .int .i64 o, .slice A1 l1.length c1, .slice A2 l2.length c2, .int .i64 s0, .int .i64 s1, .int .i64 s2, .slice A3 l3.length c3]] w
      fun e w' => e = outC (costV (appB ⟨a0, a1, a2, a3, a4, a5, a6⟩ o l1 l2) a0 a4 a5 a6 s0 s1 s2 l3) ∧ Below w.heap.size w w' := by
  obtain ⟨h1, h2, h3⟩ := sval_iff hs
  have h4 : ArtP a0 a1 a2 a3 a4 a5 a6 := of_decide_eq_true ha
  unfold ArtP at h4
  unfold SesP at h1
  exact cost_calls 9 a0 a1 a2 a3 a4 a5 a6 o s0 s1 s2 A1 c1 l1 A2 c2 l2 A3 c3 l3 _ w hr1 hc1 hr2 hc2 hr3 hc3 (slOK_mem _ _ _ h3) h2 (by omega) (by omega) (fun m => app_f 9 (by omega) ⟨a0, a1, a2, a3, a4, a5, a6⟩ o l1 l2 m) hk
set_option maxRecDepth 1000000 in
set_option maxHeartbeats 8000000 in
theorem bill_Line.calls (a0_0 a0_1 a0_2 a0_3 a0_4 a0_5 a0_6 a1_0 : Int) (A1_1 : Option Addr) (c1_1 : Nat) (l1_1 : List S99) (A1_2 : Option Addr) (c1_2 : Nat) (l1_2 : List Int) (a2_0 a2_1 a2_2 : Int) (A2_3 : Option Addr) (c2_3 : Nat) (l2_3 : List S50) (r1 r2 : Int) (w : World)
    (hr1_1 : Kd.C k99 w A1_1 l1_1.length l1_1) (hc1_1 : l1_1.length ≤ c1_1) (hr1_2 : Kd.C (Kd.int .i64) w A1_2 l1_2.length l1_2) (hc1_2 : l1_2.length ≤ c1_2) (hr2_3 : Kd.C k50 w A2_3 l2_3.length l2_3) (hc2_3 : l2_3.length ≤ c2_3)
    (h : bill_Line.f a0_0 a0_1 a0_2 a0_3 a0_4 a0_5 a0_6 a1_0 l1_1 l1_2 a2_0 a2_1 a2_2 l2_3 = some (r1, r2)) :
    Calls Try.prog 29 #[.agg #[.int .i64 a0_0, .int .i64 a0_1, .int .i64 a0_2, .int .i64 a0_3, .int .i64 a0_4, .int .i64 a0_5, .int .i64 a0_6], .agg #[.int .i64 a1_0, .slice A1_1 l1_1.length c1_1, .slice A1_2 l1_2.length c1_2], .agg #[.int .i64 a2_0, .int .i64 a2_1, .int .i64 a2_2, .slice A2_3 l2_3.length c2_3]] w
      fun e w' => e = .returned (.tuple #[.int .i64 r1, .int .i64 r2]) ∧ Below w.heap.size w w' := by
  have HR1 := Aside0.mk hr1_1
  have HR2 := Aside0.mk hr1_2
  have HR3 := Aside0.mk hr2_3
  have HC := Aside0.mk (And.intro hc1_1 (And.intro hc1_2 hc2_3))
  replace h := Option.some.inj h
  have HV := Aside0.mk h
  clear hr1_1 hc1_1 hr1_2 hc1_2 hr2_3 hc2_3 h
  have HT : Aside0 (∀ W, Kd.C k26 W _ _ [⟨a0_0, a0_1, a0_2, a0_3, a0_4, a0_5, a0_6⟩] → _) := ⟨fun W hW => tariff_Valid.calls 9 ⟨#[116]⟩ (some ⟨w.heap.size + 1 + 1 + 1 + 1, 0, none⟩) 1 [⟨a0_0, a0_1, a0_2, a0_3, a0_4, a0_5, a0_6⟩] _ W hW (Nat.le_refl _) ((tval_f 9 _ _ (by simp) (by simp)).trans (congrArg some (tval_one _)))⟩
  go_enter_defers Try.func29, Try.ntmps29
  go_wp2_with fail
  obtain ⟨W0, hW0, hB0, hsz, h1, h2, h3, h4, h5⟩ := six_blocks w (.cells #[.int .i64 a0_0, .int .i64 a0_1, .int .i64 a0_2, .int .i64 a0_3, .int .i64 a0_4, .int .i64 a0_5, .int .i64 a0_6] 26) (.cells #[.int .i64 a1_0, .slice A1_1 l1_1.length c1_1, .slice A1_2 l1_2.length c1_2] 30) (.cells #[.int .i64 a2_0, .int .i64 a2_1, .int .i64 a2_2, .slice A2_3 l2_3.length c2_3] 33) (.cells #[.int .i64 0] 39) (.cells #[.int .i64 a0_0, .int .i64 a0_1, .int .i64 a0_2, .int .i64 a0_3, .int .i64 a0_4, .int .i64 a0_5, .int .i64 a0_6] 26) (.cells #[.string ⟨#[116]⟩, .slice (some ⟨w.heap.size + 1 + 1 + 1 + 1, 0, none⟩) 1 1] 24)
  rw [hW0]
  clear hW0
  have H0 := Aside0.mk (And.intro hB0 hsz)
  have HC5 := Aside0.mk (art_one _ ⟨a0_0, a0_1, a0_2, a0_3, a0_4, a0_5, a0_6⟩ W0 h5)
  have HBA := Aside0.mk h1
  have HBC := Aside0.mk h2
  have HBS := Aside0.mk h3
  have HBE := Aside0.mk h4
  clear h1 h2 h3 h4 h5 hB0 hsz
  refine (HT.out W0 (by exact HC5.out)).mono ?_
  rintro e w2 ⟨rfl, hb2⟩
  have HB2 := Aside0.mk hb2
  clear hb2 HT
  cases d1 : artOK ⟨a0_0, a0_1, a0_2, a0_3, a0_4, a0_5, a0_6⟩
  · have e4 := (HB2.out.block _ (blk_lt HBE.out)).trans HBE.out
    have HR : Aside0 ((r1, r2) = ((0 : Int), (1 : Int))) := ⟨by rw [← HV.out, lineV, d1, if_neg (by simp)]⟩
    have e4c : w2.cell? ⟨w.heap.size + 1 + 1 + 1, 0, none⟩ = some (.int .i64 0) := (blk_cell e4 0).trans rfl
    have e4f : w2.frozen? ⟨w.heap.size + 1 + 1 + 1, 0, none⟩ = false := blk_frozen e4 0
    have e5 := blk_put e4 0 (.int .i64 1) rfl
    have e5c : (w2.setCell ⟨w.heap.size + 1 + 1 + 1, 0, none⟩ (.int .i64 1)).cell? ⟨w.heap.size + 1 + 1 + 1, 0, none⟩ = some (.int .i64 1) := (blk_cell e5 0).trans rfl
    have HE5 := Aside0.mk e5c
    clear e4 e5 e5c HV
    go_wp2
    exact ⟨.tuple #[.int .i64 0, .int .i64 1], by simp [results, Try.results29, go_sem, HE5.out], by cases HR.out; rfl, (H0.out.1.trans (HB2.out.mono (by have := H0.out.2; omega))).setCell (p := ⟨w.heap.size + 1 + 1 + 1, 0, none⟩) (by simp; omega) _⟩
  have HBA2 := Aside0.mk ((HB2.out.block _ (blk_lt HBA.out)).trans HBA.out)
  have HBC2 := Aside0.mk ((HB2.out.block _ (blk_lt HBC.out)).trans HBC.out)
  have HBS2 := Aside0.mk ((HB2.out.block _ (blk_lt HBS.out)).trans HBS.out)
  have HBE2 := Aside0.mk ((HB2.out.block _ (blk_lt HBE.out)).trans HBE.out)
  clear HBA HBC HBS HBE HC5
  have HD : Aside0 (∀ W, Below w.heap.size w W → _) := ⟨fun W hW => days_Valid.calls a1_0 A1_1 c1_1 l1_1 A1_2 c1_2 l1_2 _ W (Kd.C_below HR1.out hW) HC.out.1 (Kd.C_below HR2.out hW) HC.out.2.1 rfl⟩
  have y0 : w2.cell? ⟨w.heap.size + 1, 0, none⟩ = some (.int .i64 a1_0) := (blk_cell HBC2.out 0).trans rfl
  have y1 : w2.cell? ⟨w.heap.size + 1, 1, none⟩ = some (.slice A1_1 l1_1.length c1_1) := (blk_cell HBC2.out 1).trans rfl
  have y2 : w2.cell? ⟨w.heap.size + 1, 2, none⟩ = some (.slice A1_2 l1_2.length c1_2) := (blk_cell HBC2.out 2).trans rfl
  go_wp2_with fail
  refine (HD.out w2 (H0.out.1.trans (HB2.out.mono (by have := H0.out.2; omega)))).mono ?_
  rintro e w3 ⟨rfl, hb3⟩
  have HB3 := Aside0.mk hb3
  clear hb3 HD y0 y1 y2
  cases d2 : dvalidB a1_0 l1_1 l1_2
  · have e4 := (HB3.out.block _ (blk_lt HBE2.out)).trans HBE2.out
    have HR : Aside0 ((r1, r2) = ((0 : Int), (1 : Int))) := ⟨by rw [← HV.out, lineV, d2, if_neg (by simp)]⟩
    have e4c : w3.cell? ⟨w.heap.size + 1 + 1 + 1, 0, none⟩ = some (.int .i64 0) := (blk_cell e4 0).trans rfl
    have e4f : w3.frozen? ⟨w.heap.size + 1 + 1 + 1, 0, none⟩ = false := blk_frozen e4 0
    have e5 := blk_put e4 0 (.int .i64 1) rfl
    have e5c : (w3.setCell ⟨w.heap.size + 1 + 1 + 1, 0, none⟩ (.int .i64 1)).cell? ⟨w.heap.size + 1 + 1 + 1, 0, none⟩ = some (.int .i64 1) := (blk_cell e5 0).trans rfl
    have HE5 := Aside0.mk e5c
    clear e4 e5 e5c HV
    go_wp2
    exact ⟨.tuple #[.int .i64 0, .int .i64 1], by simp [results, Try.results29, go_sem, HE5.out], by cases HR.out; rfl, ((H0.out.1.trans (HB2.out.mono (by have := H0.out.2; omega))).trans (HB3.out.mono (by have := H0.out.2; have := HB2.out.size; omega))).setCell (p := ⟨w.heap.size + 1 + 1 + 1, 0, none⟩) (by simp; omega) _⟩
  have HBA3 := Aside0.mk ((HB3.out.block _ (blk_lt HBA2.out)).trans HBA2.out)
  have HBC3 := Aside0.mk ((HB3.out.block _ (blk_lt HBC2.out)).trans HBC2.out)
  have HBS3 := Aside0.mk ((HB3.out.block _ (blk_lt HBS2.out)).trans HBS2.out)
  have HBE3 := Aside0.mk ((HB3.out.block _ (blk_lt HBE2.out)).trans HBE2.out)
  clear HBA2 HBC2 HBS2 HBE2
  have HS : Aside0 (∀ W, Below w.heap.size w W → _) := ⟨fun W hW => bill_Valid.calls 60 a2_0 a2_1 a2_2 A2_3 c2_3 l2_3 _ W (Kd.C_below HR3.out hW) HC.out.2.2 (sval_f 60 _ _ _ _ (Nat.le_refl _))⟩
  have z0 : w3.cell? ⟨w.heap.size + 1 + 1, 0, none⟩ = some (.int .i64 a2_0) := (blk_cell HBS3.out 0).trans rfl
  have z1 : w3.cell? ⟨w.heap.size + 1 + 1, 1, none⟩ = some (.int .i64 a2_1) := (blk_cell HBS3.out 1).trans rfl
  have z2 : w3.cell? ⟨w.heap.size + 1 + 1, 2, none⟩ = some (.int .i64 a2_2) := (blk_cell HBS3.out 2).trans rfl
  have z3 : w3.cell? ⟨w.heap.size + 1 + 1, 3, none⟩ = some (.slice A2_3 l2_3.length c2_3) := (blk_cell HBS3.out 3).trans rfl
  go_wp2_with fail
  refine (HS.out w3 ((H0.out.1.trans (HB2.out.mono (by have := H0.out.2; omega))).trans (HB3.out.mono (by have := H0.out.2; have := HB2.out.size; omega)))).mono ?_
  rintro e w4 ⟨rfl, hb4⟩
  have HB4 := Aside0.mk hb4
  clear hb4 HS z0 z1 z2 z3
  cases d3 : svalB a2_0 a2_1 a2_2 l2_3
  · have e4 := (HB4.out.block _ (blk_lt HBE3.out)).trans HBE3.out
    have HR : Aside0 ((r1, r2) = ((0 : Int), (1 : Int))) := ⟨by rw [← HV.out, lineV, d3, if_neg (by simp)]⟩
    have e4c : w4.cell? ⟨w.heap.size + 1 + 1 + 1, 0, none⟩ = some (.int .i64 0) := (blk_cell e4 0).trans rfl
    have e4f : w4.frozen? ⟨w.heap.size + 1 + 1 + 1, 0, none⟩ = false := blk_frozen e4 0
    have e5 := blk_put e4 0 (.int .i64 1) rfl
    have e5c : (w4.setCell ⟨w.heap.size + 1 + 1 + 1, 0, none⟩ (.int .i64 1)).cell? ⟨w.heap.size + 1 + 1 + 1, 0, none⟩ = some (.int .i64 1) := (blk_cell e5 0).trans rfl
    have HE5 := Aside0.mk e5c
    clear e4 e5 e5c HV
    go_wp2
    exact ⟨.tuple #[.int .i64 0, .int .i64 1], by simp [results, Try.results29, go_sem, HE5.out], by cases HR.out; rfl, (((H0.out.1.trans (HB2.out.mono (by have := H0.out.2; omega))).trans (HB3.out.mono (by have := H0.out.2; have := HB2.out.size; omega))).trans (HB4.out.mono (by have := H0.out.2; have := HB2.out.size; have := HB3.out.size; omega))).setCell (p := ⟨w.heap.size + 1 + 1 + 1, 0, none⟩) (by simp; omega) _⟩
  have HBA4 := Aside0.mk ((HB4.out.block _ (blk_lt HBA3.out)).trans HBA3.out)
  have HBC4 := Aside0.mk ((HB4.out.block _ (blk_lt HBC3.out)).trans HBC3.out)
  have HBS4 := Aside0.mk ((HB4.out.block _ (blk_lt HBS3.out)).trans HBS3.out)
  have HBE4 := Aside0.mk ((HB4.out.block _ (blk_lt HBE3.out)).trans HBE3.out)
  clear HBA3 HBC3 HBS3 HBE3
  have HX := Aside0.mk (show Below w.heap.size w w4 from (((H0.out.1.trans (HB2.out.mono (by have := H0.out.2; omega))).trans (HB3.out.mono (by have := H0.out.2; have := HB2.out.size; omega))).trans (HB4.out.mono (by have := H0.out.2; have := HB2.out.size; have := HB3.out.size; omega))))
  have x0 : w4.cell? ⟨w.heap.size, 0, none⟩ = some (.int .i64 a0_0) := (blk_cell HBA4.out 0).trans rfl
  have x1 : w4.cell? ⟨w.heap.size, 1, none⟩ = some (.int .i64 a0_1) := (blk_cell HBA4.out 1).trans rfl
  have x2 : w4.cell? ⟨w.heap.size, 2, none⟩ = some (.int .i64 a0_2) := (blk_cell HBA4.out 2).trans rfl
  have x3 : w4.cell? ⟨w.heap.size, 3, none⟩ = some (.int .i64 a0_3) := (blk_cell HBA4.out 3).trans rfl
  have x4 : w4.cell? ⟨w.heap.size, 4, none⟩ = some (.int .i64 a0_4) := (blk_cell HBA4.out 4).trans rfl
  have x5 : w4.cell? ⟨w.heap.size, 5, none⟩ = some (.int .i64 a0_5) := (blk_cell HBA4.out 5).trans rfl
  have x6 : w4.cell? ⟨w.heap.size, 6, none⟩ = some (.int .i64 a0_6) := (blk_cell HBA4.out 6).trans rfl
  have y0 : w4.cell? ⟨w.heap.size + 1, 0, none⟩ = some (.int .i64 a1_0) := (blk_cell HBC4.out 0).trans rfl
  have y1 : w4.cell? ⟨w.heap.size + 1, 1, none⟩ = some (.slice A1_1 l1_1.length c1_1) := (blk_cell HBC4.out 1).trans rfl
  have y2 : w4.cell? ⟨w.heap.size + 1, 2, none⟩ = some (.slice A1_2 l1_2.length c1_2) := (blk_cell HBC4.out 2).trans rfl
  have z0 : w4.cell? ⟨w.heap.size + 1 + 1, 0, none⟩ = some (.int .i64 a2_0) := (blk_cell HBS4.out 0).trans rfl
  have z1 : w4.cell? ⟨w.heap.size + 1 + 1, 1, none⟩ = some (.int .i64 a2_1) := (blk_cell HBS4.out 1).trans rfl
  have z2 : w4.cell? ⟨w.heap.size + 1 + 1, 2, none⟩ = some (.int .i64 a2_2) := (blk_cell HBS4.out 2).trans rfl
  have z3 : w4.cell? ⟨w.heap.size + 1 + 1, 3, none⟩ = some (.slice A2_3 l2_3.length c2_3) := (blk_cell HBS4.out 3).trans rfl
  have HLV : Aside0 (lineG ⟨a0_0, a0_1, a0_2, a0_3, a0_4, a0_5, a0_6⟩ a1_0 l1_1 l1_2 a2_0 a2_1 a2_2 l2_3 = (r1, r2)) := ⟨by rw [← HV.out, lineV, if_pos ⟨d1, d2, d3⟩]⟩
  have HK : Aside0 (artOK ⟨a0_0, a0_1, a0_2, a0_3, a0_4, a0_5, a0_6⟩ = true ∧ svalB a2_0 a2_1 a2_2 l2_3 = true) := ⟨⟨d1, d3⟩⟩
  clear d1 d2 d3 HBA4 HBC4 HBS4 HV HB3 HB4 HB2
  by_cases hk : 1 ≤ a0_0 ∧ a0_0 ≤ 4
  · have HU := Aside0.mk (cost_at a0_0 a0_1 a0_2 a0_3 a0_4 a0_5 a0_6 a1_0 a2_0 a2_1 a2_2 A1_1 c1_1 l1_1 A1_2 c1_2 l1_2 A2_3 c2_3 l2_3 w4 (Kd.C_below HR1.out HX.out) HC.out.1 (Kd.C_below HR2.out HX.out) HC.out.2.1 (Kd.C_below HR3.out HX.out) HC.out.2.2 HK.out.1 HK.out.2 hk)
    have HL2 := HLV.out
    unfold lineG at HL2
    rw [if_pos hk] at HL2
    dsimp only at HL2
    generalize costV (appB ⟨a0_0, a0_1, a0_2, a0_3, a0_4, a0_5, a0_6⟩ a1_0 l1_1 l1_2) a0_0 a0_4 a0_5 a0_6 a2_0 a2_1 a2_2 l2_3 = v at HU HL2
    clear hk HK HLV
    by_cases g : v.2 = 0
    · rw [if_pos g] at HL2
      rw [outC_ok g] at HU
      have HLV := Aside0.mk HL2
      clear HL2 g
      go_wp2_with fail
      refine HU.out.mono ?_
      rintro e w5 ⟨rfl, hb5⟩
      have HB5 := Aside0.mk hb5
      have e4 := (HB5.out.block _ (blk_lt HBE4.out)).trans HBE4.out
      clear hb5 x0 x1 x2 x3 x4 x5 x6 y0 y1 y2 z0 z1 z2 z3
      have e4c : w5.cell? ⟨w.heap.size + 1 + 1 + 1, 0, none⟩ = some (.int .i64 0) := (blk_cell e4 0).trans rfl
      have e4f : w5.frozen? ⟨w.heap.size + 1 + 1 + 1, 0, none⟩ = false := blk_frozen e4 0
      have e5 := blk_put e4 0 (.int .i64 0) rfl
      have e5c : (w5.setCell ⟨w.heap.size + 1 + 1 + 1, 0, none⟩ (.int .i64 0)).cell? ⟨w.heap.size + 1 + 1 + 1, 0, none⟩ = some (.int .i64 0) := (blk_cell e5 0).trans rfl
      have HE5 := Aside0.mk e5c
      clear e4 e5 e5c
      go_wp2
      refine leaves_cons (f := 60) (args := #[.pointer (some ⟨w.heap.size + 1 + 1 + 1, 0, none⟩)]) (by simp) (by simp [go_sem]) ?_
      refine (caught_idle ⟨w.heap.size + 1 + 1 + 1, 0, none⟩ _).mono ?_
      rintro e u' w'' ⟨rfl, rfl, rfl⟩
      exact ⟨.tuple #[.int .i64 v.1, .int .i64 0], by simp [results, Try.results29, go_sem, HE5.out], by cases HLV.out; rfl, (HX.out.trans (HB5.out.mono HX.out.size)).setCell (p := ⟨w.heap.size + 1 + 1 + 1, 0, none⟩) (by simp; omega) _⟩
    · rw [if_neg g] at HL2
      rw [outC_bad g] at HU
      have HLV := Aside0.mk HL2
      clear HL2 g
      go_wp2_with fail
      refine HU.out.mono ?_
      rintro e w5 ⟨rfl, hb5⟩
      have HB5 := Aside0.mk hb5
      have e4 := (HB5.out.block _ (blk_lt HBE4.out)).trans HBE4.out
      clear hb5 x0 x1 x2 x3 x4 x5 x6 y0 y1 y2 z0 z1 z2 z3
      have e4c : w5.cell? ⟨w.heap.size + 1 + 1 + 1, 0, none⟩ = some (.int .i64 0) := (blk_cell e4 0).trans rfl
      have e4f : w5.frozen? ⟨w.heap.size + 1 + 1 + 1, 0, none⟩ = false := blk_frozen e4 0
      have e5 := blk_put e4 0 (.int .i64 v.2) rfl
      have e5c : (w5.setCell ⟨w.heap.size + 1 + 1 + 1, 0, none⟩ (.int .i64 v.2)).cell? ⟨w.heap.size + 1 + 1 + 1, 0, none⟩ = some (.int .i64 v.2) := (blk_cell e5 0).trans rfl
      have HE5 := Aside0.mk e5c
      clear e4 e5 e5c
      go_wp2
      refine leaves_cons (f := 60) (args := #[.pointer (some ⟨w.heap.size + 1 + 1 + 1, 0, none⟩)]) (by simp) (by simp [go_sem]) ?_
      refine (caught_panicking ⟨w.heap.size + 1 + 1 + 1, 0, none⟩ 0 v.2 [] _ e4c e4f).mono ?_
      rintro e u' w'' ⟨rfl, rfl, rfl⟩
      exact ⟨.tuple #[.int .i64 0, .int .i64 v.2], by simp [results, Try.results29, go_sem, HE5.out], by cases HLV.out; rfl, (HX.out.trans (HB5.out.mono HX.out.size)).setCell (p := ⟨w.heap.size + 1 + 1 + 1, 0, none⟩) (by simp; omega) _⟩
  · have HU := Aside0.mk (cost_none a0_0 a0_1 a0_2 a0_3 a0_4 a0_5 a0_6 a1_0 a2_0 a2_1 a2_2 (.slice A1_1 l1_1.length c1_1) (.slice A1_2 l1_2.length c1_2) (.slice A2_3 l2_3.length c2_3) w4 (by omega))
    have HL2 := HLV.out
    unfold lineG at HL2
    rw [if_neg hk] at HL2
    have HLV := Aside0.mk HL2
    clear HL2 hk HK
    go_wp2_with fail
    refine HU.out.mono ?_
    rintro e w5 ⟨rfl, hb5⟩
    have HB5 := Aside0.mk hb5
    have e4 := (HB5.out.block _ (blk_lt HBE4.out)).trans HBE4.out
    clear hb5 x0 x1 x2 x3 x4 x5 x6 y0 y1 y2 z0 z1 z2 z3
    have e4c : w5.cell? ⟨w.heap.size + 1 + 1 + 1, 0, none⟩ = some (.int .i64 0) := (blk_cell e4 0).trans rfl
    have e4f : w5.frozen? ⟨w.heap.size + 1 + 1 + 1, 0, none⟩ = false := blk_frozen e4 0
    have e5 := blk_put e4 0 (.int .i64 0) rfl
    have e5c : (w5.setCell ⟨w.heap.size + 1 + 1 + 1, 0, none⟩ (.int .i64 0)).cell? ⟨w.heap.size + 1 + 1 + 1, 0, none⟩ = some (.int .i64 0) := (blk_cell e5 0).trans rfl
    have HE5 := Aside0.mk e5c
    clear e4 e5 e5c
    go_wp2
    refine leaves_cons (f := 60) (args := #[.pointer (some ⟨w.heap.size + 1 + 1 + 1, 0, none⟩)]) (by simp) (by simp [go_sem]) ?_
    refine (caught_idle ⟨w.heap.size + 1 + 1 + 1, 0, none⟩ _).mono ?_
    rintro e u' w'' ⟨rfl, rfl, rfl⟩
    exact ⟨.tuple #[.int .i64 0, .int .i64 0], by simp [results, Try.results29, go_sem, HE5.out], by cases HLV.out; rfl, (HX.out.trans (HB5.out.mono HX.out.size)).setCell (p := ⟨w.heap.size + 1 + 1 + 1, 0, none⟩) (by simp; omega) _⟩
end Go.Proofs.Ytbkkgaiokmnmgaa.Pr
