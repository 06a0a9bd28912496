/- Package cable over this program: a tick of a cable, and what is built on it. -/
import Derived.Test.YtnbfjdfmpadndaaHLib
import Derived.Deep.RegionHeld3
import Derived.StillTailTactics
import Derived.Deep.QuietTactic
import Derived.BigQuiet
import Derived.Test.YtnbfjdfmpadndaaPrx2
namespace Go.Proofs.Ytnbfjdfmpadndaa.Pr
open Go.RowKit Go.Proofs.YtnbfjdfmpadndaaW.PrintWords Go.Proofs.YtnbfjdfmpadndaaW.PrintLast Go.Proofs.YtnbfjdfmpadndaaW.PrintMore
set_option linter.unusedVariables false
set_option linter.unusedSimpArgs false

/-- What a tick adds, times the denominator. -/
def heatI (A G L D t a : Int) : Int := G * a * a - mn L D * (t - A)
def carryI (A G L D t a : Int) : Int := t + (heatI A G L D t a).tdiv D + (if 0 < (heatI A G L D t a).tmod D then 1 else 0)
/-- A cable that is valid and not zero. -/
structure CableOK (A M G L D : Int) : Prop where
  a0 : 0 ≤ A
  am : A < M
  m1 : M ≤ 200000
  g0 : 0 ≤ G
  g1 : G ≤ 1000
  l0 : 0 ≤ L
  l1 : L ≤ 1000
  d0 : 1 ≤ D
  d1 : D ≤ 1000000
theorem mn_le_l (a b : Int) : mn a b ≤ a := by unfold mn; split <;> omega
theorem mn_ge {a b c : Int} (h : c ≤ a) (k : c ≤ b) : c ≤ mn a b := by unfold mn; split <;> omega
theorem i64_fit {x : Int} (h0 : -9223372036854775808 ≤ x) (h1 : x ≤ 9223372036854775807) : IntKind.i64.wrap x = x := by rw [i64_w]; unfold wrap64; omega
theorem heat_parts {A M G L D t a : Int} (hc : CableOK A M G L D) (t0 : 0 ≤ t) (t1 : t ≤ 1000000000) (x0 : 0 ≤ a) (x1 : a ≤ 1000) :
    0 ≤ G * a ∧ G * a ≤ 1000000 ∧ 0 ≤ G * a * a ∧ G * a * a ≤ 1000000000 ∧ -200000000 ≤ mn L D * (t - A) ∧ mn L D * (t - A) ≤ 1000000000000 := by
  obtain ⟨a0, am, m1, g0, g1, l0, l1, d0, d1⟩ := hc
  have m0 : 0 ≤ mn L D := mn_ge l0 (by omega)
  have m2 : mn L D ≤ 1000 := Int.le_trans (mn_le_l _ _) l1
  generalize mn L D = m at m0 m2 ⊢
  have h1 : G * a ≤ 1000 * 1000 := Int.mul_le_mul g1 x1 x0 (by omega)
  have h0 : 0 ≤ G * a := Int.mul_nonneg g0 x0
  have h3 : G * a * a ≤ 1000000 * 1000 := Int.mul_le_mul (by omega) x1 x0 (by omega)
  have h2 : 0 ≤ G * a * a := Int.mul_nonneg h0 x0
  refine ⟨h0, by omega, h2, by omega, ?_, ?_⟩
  · have : m * (-(t - A)) ≤ 1000 * 200000 := by
      rcases Int.le_total 0 (-(t - A)) with h | h
      · exact Int.mul_le_mul m2 (by omega) h (by omega)
      · have := Int.mul_nonneg m0 (show 0 ≤ t - A by omega)
        rw [Int.mul_neg]; omega
    rw [Int.mul_neg] at this
    omega
  · rcases Int.le_total 0 (t - A) with h | h
    · have := Int.mul_le_mul m2 (show t - A ≤ 1000000000 by omega) h (by omega)
      omega
    · have := Int.mul_nonneg m0 (show 0 ≤ -(t - A) by omega)
      rw [Int.mul_neg] at this; omega
theorem heat_range {A M G L D t a : Int} (hc : CableOK A M G L D) (t0 : 0 ≤ t) (t1 : t ≤ 1000000000) (x0 : 0 ≤ a) (x1 : a ≤ 1000) : -1000000000000 ≤ heatI A G L D t a ∧ heatI A G L D t a ≤ 1200000000 := by
  have := heat_parts hc t0 t1 x0 x1
  unfold heatI
  omega
theorem heat_wrap {A M G L D t a : Int} (hc : CableOK A M G L D) (t0 : 0 ≤ t) (t1 : t ≤ 1000000000) (x0 : 0 ≤ a) (x1 : a ≤ 1000) :
    IntKind.i64.wrap (IntKind.i64.wrap (IntKind.i64.wrap (G * a) * a) - IntKind.i64.wrap (mn L D * IntKind.i64.wrap (t - A))) = heatI A G L D t a := by
  have h := heat_parts hc t0 t1 x0 x1
  have h2 := heat_range hc t0 t1 x0 x1
  obtain ⟨a0, am, m1, g0, g1, l0, l1, d0, d1⟩ := hc
  unfold heatI at h2 ⊢
  rw [i64_fit (x := G * a) (by omega) (by omega), i64_fit (x := t - A) (by omega) (by omega), i64_fit (x := G * a * a) (by omega) (by omega), i64_fit (x := mn L D * (t - A)) (by omega) (by omega), i64_fit (by omega) (by omega)]
theorem tdiv_range {n D : Int} (d0 : 1 ≤ D) (h : -1000000000000 ≤ n ∧ n ≤ 1200000000) : -1000000000000 ≤ n.tdiv D ∧ n.tdiv D ≤ 1200000000 := by
  rcases Int.le_total 0 n with h0 | h0
  · rw [Int.tdiv_eq_ediv_of_nonneg h0]
    have h1 := Int.ediv_nonneg h0 (show 0 ≤ D by omega)
    have h2 := Int.ediv_le_self D h0
    omega
  · have h0' : 0 ≤ -n := by omega
    have e : n.tdiv D = -((-n) / D) := by rw [show n = -(-n) by omega, Int.neg_tdiv, Int.tdiv_eq_ediv_of_nonneg h0']; simp
    have h1 := Int.ediv_nonneg h0' (show 0 ≤ D by omega)
    have h2 := Int.ediv_le_self D h0'
    omega
theorem carry_stored {w W : World} {g : Nat} {A M G L D t : Int} {T : TypeId} (h : W.heap[g]? = some (.cells #[.int .i64 A, .int .i64 M, .int .i64 G, .int .i64 L, .int .i64 D, .int .i64 t] T (0, 0))) (hb : Below w.heap.size w W) (x : Int) :
    (W.setCell ⟨g, 5, none⟩ (.int .i64 x)).heap[g]? = some (.cells #[.int .i64 A, .int .i64 M, .int .i64 G, .int .i64 L, .int .i64 D, .int .i64 x] T (0, 0)) ∧ (∀ B, B ≤ g → B ≤ w.heap.size → Below B w (W.setCell ⟨g, 5, none⟩ (.int .i64 x))) := by
  refine ⟨by simpa using blk_set h 5 (.int .i64 x), fun B hB hB2 => (hb.mono hB2).setCell (p := ⟨g, 5, none⟩) hB _⟩
theorem cable_keep {w W W' : World} {g : Nat} {cells : Array Value} {T : TypeId} (hb : Below W.heap.size W W') (h : Aside0 (W.heap[g]? = some (.cells cells T (0, 0)) ∧ Below w.heap.size w W)) : Aside0 (W'.heap[g]? = some (.cells cells T (0, 0)) ∧ Below w.heap.size w W') :=
  ⟨⟨(hb.block g (blk_lt h.out.1)).trans h.out.1, h.out.2.trans (hb.mono h.out.2.size)⟩⟩
set_option maxHeartbeats 4000000 in
theorem carry_calls (g : Nat) (A M G L D t a : Int) (w : World) (hc : CableOK A M G L D) (t0 : 0 ≤ t) (t1 : t ≤ 1000000000) (x0 : 0 ≤ a) (x1 : a ≤ 1000)
    (hb : w.heap[g]? = some (.cells #[.int .i64 A, .int .i64 M, .int .i64 G, .int .i64 L, .int .i64 D, .int .i64 t] 67 (0, 0))) :
    Calls Try.prog 49 #[.pointer (some ⟨g, 0, none⟩), .int .i64 a] w fun e w' => e = .returned (.tuple #[]) ∧ w'.heap[g]? = some (.cells #[.int .i64 A, .int .i64 M, .int .i64 G, .int .i64 L, .int .i64 D, .int .i64 (carryI A G L D t a)] 67 (0, 0)) ∧ ∀ B, B ≤ g → Below B w w' := by
  obtain ⟨a0, am, m1, g0, g1, l0, l1, d0, d1⟩ := hc
  have c0 : w.cell? ⟨g, 0, none⟩ = some (.int .i64 A) := (blk_cell hb 0).trans rfl
  have c1 : w.cell? ⟨g, 1, none⟩ = some (.int .i64 M) := (blk_cell hb 1).trans rfl
  have c2 : w.cell? ⟨g, 2, none⟩ = some (.int .i64 G) := (blk_cell hb 2).trans rfl
  have c3 : w.cell? ⟨g, 3, none⟩ = some (.int .i64 L) := (blk_cell hb 3).trans rfl
  have c4 : w.cell? ⟨g, 4, none⟩ = some (.int .i64 D) := (blk_cell hb 4).trans rfl
  have c5 : w.cell? ⟨g, 5, none⟩ = some (.int .i64 t) := (blk_cell hb 5).trans rfl
  have HB := Aside0.mk hb
  have HG := Aside0.mk (blk_lt hb)
  clear hb
  have hu := Try.underlying67
  have hv := Try.underlying46
  have z4 : (D == 0) = false := beq_eq_false_iff_ne.2 (by omega)
  go_enter Try.func49, Try.ntmps49
  go_wp2
  go_region_held3 (fun w' => w'.cell? ⟨g, 0, none⟩ = some (.int .i64 A) ∧ w'.cell? ⟨g, 1, none⟩ = some (.int .i64 M) ∧ w'.cell? ⟨g, 2, none⟩ = some (.int .i64 G) ∧ w'.cell? ⟨g, 3, none⟩ = some (.int .i64 L) ∧ w'.cell? ⟨g, 4, none⟩ = some (.int .i64 D) ∧ w'.cell? ⟨g, 5, none⟩ = some (.int .i64 t) ∧
      Aside0 (w'.heap[g]? = some (.cells #[.int .i64 A, .int .i64 M, .int .i64 G, .int .i64 L, .int .i64 D, .int .i64 t] 67 (0, 0)) ∧ Below w.heap.size w w'))
    (first | exact ⟨c0, c1, c2, c3, c4, c5, ⟨⟨HB.out, (Below.refl _ _).drew⟩⟩⟩ | exact ⟨pw_cell_below hb2 c0, pw_cell_below hb2 c1, pw_cell_below hb2 c2, pw_cell_below hb2 c3, pw_cell_below hb2 c4, pw_cell_below hb2 c5, cable_keep hb2 ⟨⟨HB.out, (Below.refl _ _).drew⟩⟩⟩)
    (first | (go_at_call 46; refine (cable_warm_loss.calls A M G L D t (mn L D) _ rfl).mono ?_; rintro e w' ⟨rfl, hb2⟩))
  rename_i hH
  obtain ⟨d0_, d1_, d2_, d3_, d4_, d5_, HK⟩ := hH
  rw [heat_wrap ⟨a0, am, m1, g0, g1, l0, l1, d0, d1⟩ t0 t1 x0 x1]
  have hn := heat_range ⟨a0, am, m1, g0, g1, l0, l1, d0, d1⟩ t0 t1 x0 x1
  have HE := Aside0.mk (show carryI A G L D t a = t + (heatI A G L D t a).tdiv D + (if 0 < (heatI A G L D t a).tmod D then 1 else 0) from rfl)
  generalize heatI A G L D t a = n at hn HE ⊢
  clear hb2 c0 c1 c2 c3 c4 c5 HB g0 g1 l0 l1 x0 x1 am m1
  have dz : ¬ (D = 0) := by omega
  go_wp2
  go_still_tail 14, (by kernel_rfl)
  have hq : -1000000000000 ≤ n.tdiv D ∧ n.tdiv D ≤ 1200000000 := tdiv_range d0 hn
  rw [i64_fit (x := n.tdiv D) (by omega) (by omega), i64_fit (x := t + n.tdiv D) (by omega) (by omega)]
  change wpList _ _ _ _ _ w'.drew
  replace d4_ : w'.drew.cell? ⟨g, 4, none⟩ = some (.int .i64 D) := d4_
  replace d5_ : w'.drew.cell? ⟨g, 5, none⟩ = some (.int .i64 t) := d5_
  have HK2 := Aside0.mk (show w'.drew.heap[g]? = some (.cells #[.int .i64 A, .int .i64 M, .int .i64 G, .int .i64 L, .int .i64 D, .int .i64 t] 67 (0, 0)) ∧ Below w.heap.size w w'.drew from ⟨HK.out.1, HK.out.2.drew⟩)
  clear d0_ d1_ d2_ d3_ HK
  generalize w'.drew = w2 at d4_ d5_ HK2 ⊢
  have hf := blk_frozen HK2.out.1 5
  generalize n.tdiv D = q at hq HE ⊢
  have HS := Aside0.mk (carry_stored HK2.out.1 HK2.out.2 (t + q))
  by_cases hr : 0 < n.tmod D
  · have hrb : decide (0 < n.tmod D) = true := decide_eq_true hr
    have e1 := HE.out
    rw [if_pos hr] at e1
    replace HE := Aside0.mk e1
    clear hr e1
    go_wp2
    go_end0
    exact ⟨rfl, by rw [HE.out]; simpa using blk_set HS.out.1 5 (.int .i64 (t + q + 1)), fun B hB => (HS.out.2 B hB (Nat.le_trans hB (Nat.le_of_lt HG.out))).setCell (p := ⟨g, 5, none⟩) hB _⟩
  · have hrb : decide (0 < n.tmod D) = false := decide_eq_false hr
    have e1 := HE.out
    rw [if_neg hr, Int.add_zero] at e1
    replace HE := Aside0.mk e1
    clear hr e1
    go_wp2
    go_end0
    exact ⟨rfl, by rw [HE.out]; exact HS.out.1, fun B hB => HS.out.2 B hB (Nat.le_trans hB (Nat.le_of_lt HG.out))⟩
end Go.Proofs.Ytnbfjdfmpadndaa.Pr
