-- Printed by hprint.py (a program of this claim's session over the kit's printer).
import Derived.Test.YtbkkgaiokmnmgaaPrx0
import Derived.Test.YtbkkgaiokmnmgaaHShort
import Derived.Test.YtbkkgaiokmnmgaaPrx1
namespace Go.Proofs.Ytbkkgaiokmnmgaa.Pr
open Go.RowKit Go.Proofs.YtbkkgaiokmnmgaaW.PrintWords Go.Proofs.YtbkkgaiokmnmgaaW.PrintLast Go.Proofs.YtbkkgaiokmnmgaaW.PrintMore
attribute [local go_sem] max2_int min2_int max_two min_two max_three min_three max_four min_four   -- for this text's walks alone
set_option linter.unusedVariables false
set_option linter.unusedSimpArgs false

attribute [local go_sem high] eqA48
/-- A state of type 113 at block g of W; what its slices lead to came in by w0. -/
def IsS113 (w0 W : World) (g : Nat) (f0 : Int) (f1 : Bool) : Prop := W.heap[g]? = some (.cells #[.int .i64 f0, .bool f1] 113 (0, 0)) ∧ w0.heap.size ≤ g
theorem IsS113.grown {w0 W : World} {g : Nat} {f0 : Int} {f1 : Bool} {W1 : World} {row : Option Nat} (h : IsS113 w0 W g f0 f1) (hw : W.grownBy W1 row) (hne : some g ≠ row) : IsS113 w0 W1 g f0 f1 := by
 obtain ⟨hb, hg⟩ := h
 exact ⟨blk_grown hb hw hne, hg⟩
theorem IsS113.own_neN {w0 W : World} {g : Nat} {f0 : Int} {f1 : Bool} {α : Type} {d : Kd α} {e : Nat} {base : Nat} {ok : Nat → Prop} {v : Value} {xs : List α} (h : IsS113 w0 W g f0 f1) (ho : Kd.N d e W base ok v xs) (ht : e ≠ 113) : some g ≠ v.ownBlock := by
 obtain ⟨hb, hg⟩ := h
 exact Kd.N_ne ho hb ht
theorem IsS113.fresh {w0 W : World} {g : Nat} {f0 : Int} {f1 : Bool} (h : IsS113 w0 W g f0 f1) : ∀ k, W.heap.size ≤ k → k ≠ g := by
 obtain ⟨hb, hg⟩ := h
 exact Kd.freshB hb
theorem IsS113.kept {w0 W : World} {g : Nat} {f0 : Int} {f1 : Bool} {W1 : World} {S : Nat → Prop} (h : IsS113 w0 W g f0 f1) (hk : Kept W W1 S) (hne : ¬ S g) : IsS113 w0 W1 g f0 f1 := by
 obtain ⟨hb, hg⟩ := h
 exact ⟨blk_kept hb hk hne, hg⟩
theorem IsS113.below {w0 W : World} {g : Nat} {f0 : Int} {f1 : Bool} {W1 : World} (h : IsS113 w0 W g f0 f1) (hw : Below W.heap.size W W1) : IsS113 w0 W1 g f0 f1 := h.grown (grown_of_below hw none) (by simp)
theorem IsS113.alloc {w0 W : World} {g : Nat} {f0 : Int} {f1 : Bool} (h : IsS113 w0 W g f0 f1) (o : Obj) : IsS113 w0 (W.alloc o) g f0 f1 := h.below (below_alloc (Below.refl _ _) o)
theorem IsS113.drewN {w0 W : World} {g : Nat} {f0 : Int} {f1 : Bool} (h : IsS113 w0 W g f0 f1) (m : Nat) : IsS113 w0 (W.drewN m) g f0 f1 := h
theorem IsS113.drew {w0 W : World} {g : Nat} {f0 : Int} {f1 : Bool} (h : IsS113 w0 W g f0 f1) : IsS113 w0 W.drew g f0 f1 := h
theorem IsS113.at_ {w0 W : World} {g : Nat} {f0 : Int} {f1 : Bool} {w' : World} {m : Nat} (hq : W.drewN m = w') (h : IsS113 w0 W g f0 f1) : IsS113 w0 w' g f0 f1 := by subst hq; exact IsS113.drewN h m
theorem IsS113.apart {w0 W : World} {g : Nat} {f0 : Int} {f1 : Bool} {α : Type} {d : Kd α} {e : Nat} {base : Nat} {ok : Nat → Prop} {v : Value} {xs : List α} (h : IsS113 w0 W g f0 f1) (ho : d.R e W base ok v xs) (ht : ∀ q, q ∈ e :: d.E → q ≠ 113) : d.R e W base (fun k => ok k ∧ k ≠ g) v xs := by
 obtain ⟨hb, hg⟩ := h
 exact Kd.R_types ho hb ht
theorem IsS113.own_ne {w0 W : World} {g : Nat} {f0 : Int} {f1 : Bool} {α : Type} {d : Kd α} {e : Nat} {base : Nat} {ok : Nat → Prop} {v : Value} {xs : List α} (h : IsS113 w0 W g f0 f1) (ho : d.R e W base ok v xs) (ht : e ≠ 113) : some g ≠ v.ownBlock := by
 obtain ⟨hb, hg⟩ := h
 exact Kd.R_ne ho hb ht
theorem IsS113.apartQ {w0 W : World} {g : Nat} {f0 : Int} {f1 : Bool} {α : Type} {d : Kd α} {e : Nat} {base : Nat} {ok : Nat → Prop} {v : Value} {xs : List α} (h : IsS113 w0 W g f0 f1) (ho : d.Q e W base ok v xs) (ht : ∀ q, q ∈ e :: d.E → q ≠ 113) : d.Q e W base (fun k => ok k ∧ k ≠ g) v xs := by
 obtain ⟨hb, hg⟩ := h
 exact Kd.Q_types ho hb ht
theorem IsS113.own_neQ {w0 W : World} {g : Nat} {f0 : Int} {f1 : Bool} {α : Type} {d : Kd α} {e : Nat} {base : Nat} {ok : Nat → Prop} {v : Value} {xs : List α} (h : IsS113 w0 W g f0 f1) (ho : d.Q e W base ok v xs) (ht : e ≠ 113) : some g ≠ v.ownBlock := by
 obtain ⟨hb, hg⟩ := h
 exact Kd.Q_ne ho hb ht
theorem IsS113.apartS {w0 W : World} {g : Nat} {f0 : Int} {f1 : Bool} {α : Type} {d : Kd α} {e : Nat} {base : Nat} {ok : Nat → Prop} {v : Value} {xs : List α} (h : IsS113 w0 W g f0 f1) (ho : d.S e W base ok v xs) (ht : ∀ q, q ∈ e :: d.E → q ≠ 113) : d.S e W base (fun k => ok k ∧ k ≠ g) v xs := by
 obtain ⟨hb, hg⟩ := h
 exact Kd.S_types ho hb ht
theorem IsS113.own_neS {w0 W : World} {g : Nat} {f0 : Int} {f1 : Bool} {α : Type} {d : Kd α} {e : Nat} {base : Nat} {ok : Nat → Prop} {v : Value} {xs : List α} (h : IsS113 w0 W g f0 f1) (ho : d.S e W base ok v xs) (ht : e ≠ 113) : some g ≠ v.ownBlock := by
 obtain ⟨hb, hg⟩ := h
 exact Kd.S_ne ho hb ht
theorem IsS113.lt {w0 W : World} {g : Nat} {f0 : Int} {f1 : Bool} (h : IsS113 w0 W g f0 f1) : g < W.heap.size := by
 obtain ⟨hb, hg⟩ := h
 exact blk_lt hb
theorem IsS113.ge {w0 W : World} {g : Nat} {f0 : Int} {f1 : Bool} (h : IsS113 w0 W g f0 f1) : w0.heap.size ≤ g := by
 obtain ⟨hb, hg⟩ := h
 exact hg
theorem IsS113.ne_blk {w0 W : World} {g : Nat} {f0 : Int} {f1 : Bool} {a : Nat} {cs : Array Value} {t : TypeId} {fr : Nat × Nat} (h : IsS113 w0 W g f0 f1) (hb2 : W.heap[a]? = some (.cells cs t fr)) (ht : t ≠ 113) : g ≠ a := by
 obtain ⟨hb, hg⟩ := h
 rintro rfl
 rw [hb] at hb2
 injection hb2 with hb2
 injection hb2 with _ ht2
 exact ht ht2.symm
theorem IsS113.far {w0 W : World} {g : Nat} {f0 : Int} {f1 : Bool} {p : Addr} (h : IsS113 w0 W g f0 f1) (hne : g ≠ p.block) (u : Value) : IsS113 w0 (W.setCell p u) g f0 f1 := by
 obtain ⟨hb, hg⟩ := h
 exact ⟨blk_far hb hne u, hg⟩
theorem cellS113_0 {W : World} {g : Nat} {f0 : Int} {f1 : Bool} (h : W.heap[g]? = some (.cells #[.int .i64 f0, .bool f1] 113 (0, 0))) : W.cell? ⟨g, 0, none⟩ = some (.int .i64 f0) := (blk_cell h 0).trans rfl
theorem IsS113.set_0 {w0 W : World} {g : Nat} {f0 : Int} {f1 : Bool} (h : IsS113 w0 W g f0 f1) (x : Int) : IsS113 w0 (W.setCell ⟨g, 0, none⟩ (.int .i64 x)) g x f1 := by
 obtain ⟨hb, hg⟩ := h
 exact ⟨by simpa using blk_set hb 0 (.int .i64 x), hg⟩
theorem cellS113_1 {W : World} {g : Nat} {f0 : Int} {f1 : Bool} (h : W.heap[g]? = some (.cells #[.int .i64 f0, .bool f1] 113 (0, 0))) : W.cell? ⟨g, 1, none⟩ = some (.bool f1) := (blk_cell h 1).trans rfl
theorem IsS113.set_1 {w0 W : World} {g : Nat} {f0 : Int} {f1 : Bool} (h : IsS113 w0 W g f0 f1) (x : Bool) : IsS113 w0 (W.setCell ⟨g, 1, none⟩ (.bool x)) g f0 x := by
 obtain ⟨hb, hg⟩ := h
 exact ⟨by simpa using blk_set hb 1 (.bool x), hg⟩
theorem IsS113.new (w0 W : World) (f0 : Int) (f1 : Bool) (hB : Below w0.heap.size w0 W) : IsS113 w0 (W.alloc (.cells #[.int .i64 f0, .bool f1] 113)) W.heap.size f0 f1 := ⟨by simpa using heap_alloc_new W _, hB.size⟩

/-! ### quote_sum_add: function 83 -/
def quote_sum_add.f (s0_0 : Int) (s0_1 : Bool) (a1 : Int) (a2 : Int) : Option (Int × Bool) := if s0_1 = true then (if a2 = 0 then (some (wrap64 (s0_0 + a1), decide (a1 ≤ 1000000000))) else (some (wrap64 (s0_0 + a1), false))) else (some (wrap64 (s0_0 + a1), false))
set_option maxHeartbeats 8000000 in
set_option maxRecDepth 100000 in
theorem quote_sum_add.calls (g : Nat) (s0_0 : Int) (s0_1 : Bool) (a1 : Int) (a2 : Int) (r1 : Int) (r2 : Bool) (w0 w : World) (hI : IsS113 w0 w g s0_0 s0_1) (hB : Below w0.heap.size w0 w) (h : quote_sum_add.f s0_0 s0_1 a1 a2 = some (r1, r2)) :
  Calls Try.prog 83 #[.pointer (some ⟨g, 0, none⟩), .int .i64 a1, .int .i64 a2] w fun e w' => e = .returned (.tuple #[]) ∧ IsS113 w0 w' g r1 r2 ∧ Below w0.heap.size w0 w' ∧ KeepBut w w' g none := by
 have HI0 := Aside0.mk hI
 have HK := Aside0.mk (KeepBut.refl w g none)
 have HL := Aside0.mk hB.size
 clear hI
 have HW0 := Aside0.mk hB.size
 have HB := Aside0.mk hB
 clear hB
 have H : (if s0_1 = true then (if a2 = 0 then (some (wrap64 (s0_0 + a1), decide (a1 ≤ 1000000000))) else (some (wrap64 (s0_0 + a1), false))) else (some (wrap64 (s0_0 + a1), false))) = some (r1, r2) := h
 clear h
 by_cases c4 : s0_1 = true
 ·subst c4
  have H1 : (if a2 = 0 then (some (wrap64 (s0_0 + a1), decide (a1 ≤ 1000000000))) else (some (wrap64 (s0_0 + a1), false))) = some (r1, r2) := by rw [if_pos rfl] at H; exact H
  clear H
  have H := H1
  clear H1
  by_cases c5 : a2 = 0
  ·rw [if_pos c5] at H
   have c5b0 : (a2 == 0) = true := beq_iff_eq.mpr c5
   have c5b1 : (a2 != 0) = false := bne_eq_false_iff_eq.mpr c5
   clear c5
   simp only [Option.some.injEq, Prod.mk.injEq] at H
   obtain ⟨rfl, rfl⟩ := H
   obtain ⟨HGz6, hgz6⟩ := HI0.out
   have hcz6_0 := cellS113_0 HGz6
   have hcz6_1 := cellS113_1 HGz6
   have hfz6_0 := blk_frozen HGz6 0
   have hfz6_1 := blk_frozen HGz6 1
   clear HGz6 hgz6
   go_enter Try.func83, Try.ntmps83
   go_wp2
   first | go_end0 | ((try simp only [Exit.inBlock, Exit.then]); refine bodyPost_ret (results_none rfl _ _ _) rfl ?_)
   exact ⟨by first | rfl | (simp [errW_none, errW_some] <;> rfl) | (simp [*, errW_none, errW_some] <;> rfl), by repeat (first | (with_reducible first | exact HI0.out | apply IsS113.alloc | apply IsS113.drewN | apply IsS113.drew | apply IsS113.set_0 | apply IsS113.set_1) | exact HI0.out), by repeat (first | (with_reducible first | exact HB.out | apply below_alloc | apply pw_below_drewN | apply below_drew1 | refine below_set ?_ (IsS113.ge HI0.out)) | exact HB.out), by repeat (first | (with_reducible first | exact HK.out | apply KeepBut.set_ | apply keep_drewN | apply keep_drew | apply keep_alloc) | exact HK.out)⟩
  ·rw [if_neg c5] at H
   have c5b0 : (a2 == 0) = false := beq_eq_false_iff_ne.mpr c5
   have c5b1 : (a2 != 0) = true := bne_iff_ne.mpr c5
   simp only [Option.some.injEq, Prod.mk.injEq] at H
   obtain ⟨rfl, rfl⟩ := H
   obtain ⟨HGz7, hgz7⟩ := HI0.out
   have hcz7_0 := cellS113_0 HGz7
   have hcz7_1 := cellS113_1 HGz7
   have hfz7_0 := blk_frozen HGz7 0
   have hfz7_1 := blk_frozen HGz7 1
   clear HGz7 hgz7
   go_enter Try.func83, Try.ntmps83
   go_wp2
   first | go_end0 | ((try simp only [Exit.inBlock, Exit.then]); refine bodyPost_ret (results_none rfl _ _ _) rfl ?_)
   exact ⟨by first | rfl | (simp [errW_none, errW_some] <;> rfl) | (simp [*, errW_none, errW_some] <;> rfl), by repeat (first | (with_reducible first | exact HI0.out | apply IsS113.alloc | apply IsS113.drewN | apply IsS113.drew | apply IsS113.set_0 | apply IsS113.set_1) | exact HI0.out), by repeat (first | (with_reducible first | exact HB.out | apply below_alloc | apply pw_below_drewN | apply below_drew1 | refine below_set ?_ (IsS113.ge HI0.out)) | exact HB.out), by repeat (first | (with_reducible first | exact HK.out | apply KeepBut.set_ | apply keep_drewN | apply keep_drew | apply keep_alloc) | exact HK.out)⟩
 ·replace c4 := Bool.eq_false_iff.mpr c4
  subst c4
  have H1 : (some (wrap64 (s0_0 + a1), false)) = some (r1, r2) := by rw [if_neg (show ¬ (false = true) by decide)] at H; exact H
  clear H
  have H := H1
  clear H1
  simp only [Option.some.injEq, Prod.mk.injEq] at H
  obtain ⟨rfl, rfl⟩ := H
  obtain ⟨HGz8, hgz8⟩ := HI0.out
  have hcz8_0 := cellS113_0 HGz8
  have hcz8_1 := cellS113_1 HGz8
  have hfz8_0 := blk_frozen HGz8 0
  have hfz8_1 := blk_frozen HGz8 1
  clear HGz8 hgz8
  go_enter Try.func83, Try.ntmps83
  go_wp2
  first | go_end0 | ((try simp only [Exit.inBlock, Exit.then]); refine bodyPost_ret (results_none rfl _ _ _) rfl ?_)
  exact ⟨by first | rfl | (simp [errW_none, errW_some] <;> rfl) | (simp [*, errW_none, errW_some] <;> rfl), by repeat (first | (with_reducible first | exact HI0.out | apply IsS113.alloc | apply IsS113.drewN | apply IsS113.drew | apply IsS113.set_0 | apply IsS113.set_1) | exact HI0.out), by repeat (first | (with_reducible first | exact HB.out | apply below_alloc | apply pw_below_drewN | apply below_drew1 | refine below_set ?_ (IsS113.ge HI0.out)) | exact HB.out), by repeat (first | (with_reducible first | exact HK.out | apply KeepBut.set_ | apply keep_drewN | apply keep_drew | apply keep_alloc) | exact HK.out)⟩

-- BY HAND: function 27 (bill_Bill)

-- BY HAND: function 29 (bill_Line)

/-! ### chargeparkref33_Same: function 31 -/
def chargeparkref33_Same.l0 : Nat → Int → List (S48) → Int → Int → Int → List (S48) → Int → Int → Int → Option (Bool)
 | 0, _, _, _, _, _, _, _, _, _ => none
 | k + 1, x5, x142000, x142001, x142002, x142003, x143000, x143001, x143002, x143003 => if x5 < (x142000.length : Int) then (if 0 ≤ x5 then (if x5 < (x143000.length : Int) then (if (!(((rd_T48 x142000 x5).f0) == ((rd_T48 x143000 x5).f0)) || (!(((rd_T48 x142000 x5).f1) == ((rd_T48 x143000 x5).f1)))) = true then (some false) else (chargeparkref33_Same.l0 k (wrap64 (x5 + 1)) x142000 x142001 x142002 x142003 x143000 x143001 x143002 x143003)) else (none)) else (none)) else (if x142001 = x143001 then (if x142002 = x143002 then (some (x142003 == x143003)) else (some false)) else (some false))
def chargeparkref33_Same.f (k : Nat) (l0_0 : List (S48)) (a0_1 : Int) (a0_2 : Int) (a0_3 : Int) (l1_0 : List (S48)) (a1_1 : Int) (a1_2 : Int) (a1_3 : Int) : Option (Bool) := if (l0_0.length : Int) = (l1_0.length : Int) then (chargeparkref33_Same.l0 k 0 l0_0 a0_1 a0_2 a0_3 l1_0 a1_1 a1_2 a1_3) else (some false)
theorem chargeparkref33_Same.mono_l : ∀ k, (∀ y0 y1 y2 y3 y4 y5 y6 y7 y8, LeO (chargeparkref33_Same.l0 k y0 y1 y2 y3 y4 y5 y6 y7 y8) (chargeparkref33_Same.l0 (k + 1) y0 y1 y2 y3 y4 y5 y6 y7 y8))
 | 0 => fun _ _ _ _ _ _ _ _ _ r h => by simp [chargeparkref33_Same.l0] at h
 | k + 1 => by
  have ih0 := chargeparkref33_Same.mono_l k
  ·intro y0 y1 y2 y3 y4 y5 y6 y7 y8
   unfold chargeparkref33_Same.l0
   repeat' first
   | (with_reducible exact ih0 _ _ _ _ _ _ _ _ _)
   | (with_reducible exact LeO.refl _)
   | (with_reducible exact LeO.none _)
   | (with_reducible refine LeO.ite ?_ ?_)
   | (with_reducible refine LeO.bind ?_ (fun _ => ?_))
   | exact ih0 _ _ _ _ _ _ _ _ _
   | exact LeO.none _
   | refine LeO.ite ?_ ?_
   | refine LeO.bind ?_ (fun _ => ?_)
theorem chargeparkref33_Same.mono : ∀ a0 a1 a2 a3 a4 a5 a6 a7 k, LeO (chargeparkref33_Same.f k a0 a1 a2 a3 a4 a5 a6 a7) (chargeparkref33_Same.f (k + 1) a0 a1 a2 a3 a4 a5 a6 a7) := by
 intro a0 a1 a2 a3 a4 a5 a6 a7 k
 have ih0 := chargeparkref33_Same.mono_l k
 unfold chargeparkref33_Same.f
 repeat' first
   | (with_reducible exact ih0 _ _ _ _ _ _ _ _ _)
   | (with_reducible exact LeO.refl _)
   | (with_reducible exact LeO.none _)
   | (with_reducible refine LeO.ite ?_ ?_)
   | (with_reducible refine LeO.bind ?_ (fun _ => ?_))
   | exact ih0 _ _ _ _ _ _ _ _ _
   | exact LeO.none _
   | refine LeO.ite ?_ ?_
   | refine LeO.bind ?_ (fun _ => ?_)
set_option maxHeartbeats 8000000 in
set_option maxRecDepth 100000 in
theorem chargeparkref33_Same.calls (k : Nat) (A0_0 : Option Addr) (c0_0 : Nat) (l0_0 : List (S48)) (a0_1 : Int) (a0_2 : Int) (a0_3 : Int) (A1_0 : Option Addr) (c1_0 : Nat) (l1_0 : List (S48)) (a1_1 : Int) (a1_2 : Int) (a1_3 : Int) (r : Bool) (w : World) (hr0_0 : Kd.C k48 w A0_0 l0_0.length l0_0) (hc0_0 : l0_0.length ≤ c0_0) (hr1_0 : Kd.C k48 w A1_0 l1_0.length l1_0) (hc1_0 : l1_0.length ≤ c1_0) (h : chargeparkref33_Same.f k l0_0 a0_1 a0_2 a0_3 l1_0 a1_1 a1_2 a1_3 = some r) :
  Calls Try.prog 31 #[.agg #[.slice A0_0 l0_0.length c0_0, .int .i64 a0_1, .int .i64 a0_2, .int .i64 a0_3], .agg #[.slice A1_0 l1_0.length c1_0, .int .i64 a1_1, .int .i64 a1_2, .int .i64 a1_3]] w fun e w' => e = .returned (.bool r) ∧ Below w.heap.size w w' := by
 have hu38 := Try.underlying38
 have hu48 := Try.underlying48
 have HR0_0 := Aside0.mk hr0_0
 have HC0_0 := Aside0.mk hc0_0
 clear hr0_0 hc0_0
 have HR1_0 := Aside0.mk hr1_0
 have HC1_0 := Aside0.mk hc1_0
 clear hr1_0 hc1_0
 have HB := Aside0.mk (Below.refl w.heap.size w)
 have H : (if (l0_0.length : Int) = (l1_0.length : Int) then (chargeparkref33_Same.l0 k 0 l0_0 a0_1 a0_2 a0_3 l1_0 a1_1 a1_2 a1_3) else (some false)) = some r := h
 clear h
 by_cases c3 : (l0_0.length : Int) = (l1_0.length : Int)
 ·rw [if_pos c3] at H
  have c3b0 : ((l0_0.length : Int) == (l1_0.length : Int)) = true := beq_iff_eq.mpr c3
  have c3b1 : ((l0_0.length : Int) != (l1_0.length : Int)) = false := bne_eq_false_iff_eq.mpr c3
  have c3b2 : (l0_0.length == l1_0.length) = true := by first | simpa using c3 | (simp at c3 ⊢; omega)
  clear c3
  have H' := Aside0.mk H
  clear H
  go_enter Try.func31, Try.ntmps31
  go_wp2_with (first | ((with_reducible refine gate_dst (N := 2) rfl ?_); refine box_event ?hg (N := 2) ?hd (cs := #[.slice A0_0 l0_0.length c0_0, .int .i64 a0_1, .int .i64 a0_2, .int .i64 a0_3]) (t := 38) ?hr ?_; (case hd => rfl); (case hg => rfl); (case hr => first | (go_simp; done) | (go_simp; rfl)); intro gb141 hg w4 hbox hb; have n0_ := Aside0.mk (below_step (hb_ HB) hb); have n1_ := Aside0.mk (hbox); have n2_ := Aside0.mk ((by rw [hg]; exact (below_size (hb_ HB)) : w.heap.size ≤ gb141)); have n3_ := Aside0.mk ((by rw [hg]; exact (below_size (hb_ HB)) : w.heap.size ≤ gb141)); clear HB; have HB := n0_; have BK141 := n1_; have GW141 := n2_; have GE141 := n3_; clear n0_ n1_ n2_ n3_; clear hb hbox hg) | ((with_reducible refine gate_dst (N := 3) rfl ?_); refine box_event ?hg (N := 3) ?hd (cs := #[.slice A1_0 l1_0.length c1_0, .int .i64 a1_1, .int .i64 a1_2, .int .i64 a1_3]) (t := 38) ?hr ?_; (case hd => rfl); (case hg => rfl); (case hr => first | (go_simp; done) | (go_simp; rfl)); intro gb142 hg w5 hbox hb; have n0_ := (bb_ BK141 hb); have n1_ := Aside0.mk (below_step (hb_ HB) hb); have n2_ := Aside0.mk (hbox); have n3_ := Aside0.mk ((by rw [hg]; exact (below_size (hb_ HB)) : w.heap.size ≤ gb142)); have n4_ := Aside0.mk ((by rw [hg]; exact (below_size (hb_ HB)) : w.heap.size ≤ gb142)); have n5_ := (nlt_ BK141 hg); have n6_ := (ngt_ BK141 hg); clear BK141; clear HB; have BK141 := n0_; have HB := n1_; have BK142 := n2_; have GW142 := n3_; have GE142 := n4_; have NB141_142 := n5_; have NB142_141 := n6_; clear n0_ n1_ n2_ n3_ n4_ n5_ n6_; clear hb hbox hg; have hnb6 := NB141_142.out; have hnc6 := NB142_141.out; have hcz7_0 : w5.cell? ⟨gb141, 0, none⟩ = some (.slice A0_0 l0_0.length c0_0) := bc_ BK141 0; have hcz7_1 : w5.cell? ⟨gb141, 1, none⟩ = some (.int .i64 a0_1) := bc_ BK141 1; have hcz7_2 : w5.cell? ⟨gb141, 2, none⟩ = some (.int .i64 a0_2) := bc_ BK141 2; have hcz7_3 : w5.cell? ⟨gb141, 3, none⟩ = some (.int .i64 a0_3) := bc_ BK141 3; have hfz7_0 := blk_frozen BK141.out 0; have hfz7_1 := blk_frozen BK141.out 1; have hfz7_2 := blk_frozen BK141.out 2; have hfz7_3 := blk_frozen BK141.out 3; have hcz8_0 : w5.cell? ⟨gb142, 0, none⟩ = some (.slice A1_0 l1_0.length c1_0) := bc_ BK142 0; have hcz8_1 : w5.cell? ⟨gb142, 1, none⟩ = some (.int .i64 a1_1) := bc_ BK142 1; have hcz8_2 : w5.cell? ⟨gb142, 2, none⟩ = some (.int .i64 a1_2) := bc_ BK142 2; have hcz8_3 : w5.cell? ⟨gb142, 3, none⟩ = some (.int .i64 a1_3) := bc_ BK142 3; have hfz8_0 := blk_frozen BK142.out 0; have hfz8_1 := blk_frozen BK142.out 1; have hfz8_2 := blk_frozen BK142.out 2; have hfz8_3 := blk_frozen BK142.out 3))
  repeat (go_quiet (first | ((with_reducible refine gate_dst (N := 2) rfl ?_); refine box_event ?hg (N := 2) ?hd (cs := #[.slice A0_0 l0_0.length c0_0, .int .i64 a0_1, .int .i64 a0_2, .int .i64 a0_3]) (t := 38) ?hr ?_; (case hd => rfl); (case hg => rfl); (case hr => first | (go_simp; done) | (go_simp; rfl)); intro gb141 hg w4 hbox hb; have n0_ := Aside0.mk (below_step (hb_ HB) hb); have n1_ := Aside0.mk (hbox); have n2_ := Aside0.mk ((by rw [hg]; exact (below_size (hb_ HB)) : w.heap.size ≤ gb141)); have n3_ := Aside0.mk ((by rw [hg]; exact (below_size (hb_ HB)) : w.heap.size ≤ gb141)); clear HB; have HB := n0_; have BK141 := n1_; have GW141 := n2_; have GE141 := n3_; clear n0_ n1_ n2_ n3_; clear hb hbox hg) | ((with_reducible refine gate_dst (N := 3) rfl ?_); refine box_event ?hg (N := 3) ?hd (cs := #[.slice A1_0 l1_0.length c1_0, .int .i64 a1_1, .int .i64 a1_2, .int .i64 a1_3]) (t := 38) ?hr ?_; (case hd => rfl); (case hg => rfl); (case hr => first | (go_simp; done) | (go_simp; rfl)); intro gb142 hg w5 hbox hb; have n0_ := (bb_ BK141 hb); have n1_ := Aside0.mk (below_step (hb_ HB) hb); have n2_ := Aside0.mk (hbox); have n3_ := Aside0.mk ((by rw [hg]; exact (below_size (hb_ HB)) : w.heap.size ≤ gb142)); have n4_ := Aside0.mk ((by rw [hg]; exact (below_size (hb_ HB)) : w.heap.size ≤ gb142)); have n5_ := (nlt_ BK141 hg); have n6_ := (ngt_ BK141 hg); clear BK141; clear HB; have BK141 := n0_; have HB := n1_; have BK142 := n2_; have GW142 := n3_; have GE142 := n4_; have NB141_142 := n5_; have NB142_141 := n6_; clear n0_ n1_ n2_ n3_ n4_ n5_ n6_; clear hb hbox hg; have hnb6 := NB141_142.out; have hnc6 := NB142_141.out; have hcz7_0 : w5.cell? ⟨gb141, 0, none⟩ = some (.slice A0_0 l0_0.length c0_0) := bc_ BK141 0; have hcz7_1 : w5.cell? ⟨gb141, 1, none⟩ = some (.int .i64 a0_1) := bc_ BK141 1; have hcz7_2 : w5.cell? ⟨gb141, 2, none⟩ = some (.int .i64 a0_2) := bc_ BK141 2; have hcz7_3 : w5.cell? ⟨gb141, 3, none⟩ = some (.int .i64 a0_3) := bc_ BK141 3; have hfz7_0 := blk_frozen BK141.out 0; have hfz7_1 := blk_frozen BK141.out 1; have hfz7_2 := blk_frozen BK141.out 2; have hfz7_3 := blk_frozen BK141.out 3; have hcz8_0 : w5.cell? ⟨gb142, 0, none⟩ = some (.slice A1_0 l1_0.length c1_0) := bc_ BK142 0; have hcz8_1 : w5.cell? ⟨gb142, 1, none⟩ = some (.int .i64 a1_1) := bc_ BK142 1; have hcz8_2 : w5.cell? ⟨gb142, 2, none⟩ = some (.int .i64 a1_2) := bc_ BK142 2; have hcz8_3 : w5.cell? ⟨gb142, 3, none⟩ = some (.int .i64 a1_3) := bc_ BK142 3; have hfz8_0 := blk_frozen BK142.out 0; have hfz8_1 := blk_frozen BK142.out 1; have hfz8_2 := blk_frozen BK142.out 2; have hfz8_3 := blk_frozen BK142.out 3)); try go_wp2_with (first | ((with_reducible refine gate_dst (N := 2) rfl ?_); refine box_event ?hg (N := 2) ?hd (cs := #[.slice A0_0 l0_0.length c0_0, .int .i64 a0_1, .int .i64 a0_2, .int .i64 a0_3]) (t := 38) ?hr ?_; (case hd => rfl); (case hg => rfl); (case hr => first | (go_simp; done) | (go_simp; rfl)); intro gb141 hg w4 hbox hb; have n0_ := Aside0.mk (below_step (hb_ HB) hb); have n1_ := Aside0.mk (hbox); have n2_ := Aside0.mk ((by rw [hg]; exact (below_size (hb_ HB)) : w.heap.size ≤ gb141)); have n3_ := Aside0.mk ((by rw [hg]; exact (below_size (hb_ HB)) : w.heap.size ≤ gb141)); clear HB; have HB := n0_; have BK141 := n1_; have GW141 := n2_; have GE141 := n3_; clear n0_ n1_ n2_ n3_; clear hb hbox hg) | ((with_reducible refine gate_dst (N := 3) rfl ?_); refine box_event ?hg (N := 3) ?hd (cs := #[.slice A1_0 l1_0.length c1_0, .int .i64 a1_1, .int .i64 a1_2, .int .i64 a1_3]) (t := 38) ?hr ?_; (case hd => rfl); (case hg => rfl); (case hr => first | (go_simp; done) | (go_simp; rfl)); intro gb142 hg w5 hbox hb; have n0_ := (bb_ BK141 hb); have n1_ := Aside0.mk (below_step (hb_ HB) hb); have n2_ := Aside0.mk (hbox); have n3_ := Aside0.mk ((by rw [hg]; exact (below_size (hb_ HB)) : w.heap.size ≤ gb142)); have n4_ := Aside0.mk ((by rw [hg]; exact (below_size (hb_ HB)) : w.heap.size ≤ gb142)); have n5_ := (nlt_ BK141 hg); have n6_ := (ngt_ BK141 hg); clear BK141; clear HB; have BK141 := n0_; have HB := n1_; have BK142 := n2_; have GW142 := n3_; have GE142 := n4_; have NB141_142 := n5_; have NB142_141 := n6_; clear n0_ n1_ n2_ n3_ n4_ n5_ n6_; clear hb hbox hg; have hnb6 := NB141_142.out; have hnc6 := NB142_141.out; have hcz7_0 : w5.cell? ⟨gb141, 0, none⟩ = some (.slice A0_0 l0_0.length c0_0) := bc_ BK141 0; have hcz7_1 : w5.cell? ⟨gb141, 1, none⟩ = some (.int .i64 a0_1) := bc_ BK141 1; have hcz7_2 : w5.cell? ⟨gb141, 2, none⟩ = some (.int .i64 a0_2) := bc_ BK141 2; have hcz7_3 : w5.cell? ⟨gb141, 3, none⟩ = some (.int .i64 a0_3) := bc_ BK141 3; have hfz7_0 := blk_frozen BK141.out 0; have hfz7_1 := blk_frozen BK141.out 1; have hfz7_2 := blk_frozen BK141.out 2; have hfz7_3 := blk_frozen BK141.out 3; have hcz8_0 : w5.cell? ⟨gb142, 0, none⟩ = some (.slice A1_0 l1_0.length c1_0) := bc_ BK142 0; have hcz8_1 : w5.cell? ⟨gb142, 1, none⟩ = some (.int .i64 a1_1) := bc_ BK142 1; have hcz8_2 : w5.cell? ⟨gb142, 2, none⟩ = some (.int .i64 a1_2) := bc_ BK142 2; have hcz8_3 : w5.cell? ⟨gb142, 3, none⟩ = some (.int .i64 a1_3) := bc_ BK142 3; have hfz8_0 := blk_frozen BK142.out 0; have hfz8_1 := blk_frozen BK142.out 1; have hfz8_2 := blk_frozen BK142.out 2; have hfz8_3 := blk_frozen BK142.out 3)))
  go_loopg [5] k (fun kq v5 w' => ∃ (x5_1 : Int), v5 = .int .i64 x5_1 ∧ Aside0 (chargeparkref33_Same.l0 kq x5_1 l0_0 a0_1 a0_2 a0_3 l1_0 a1_1 a1_2 a1_3 = some r) ∧ Aside0 (kq ≤ k) ∧ Aside0 (w'.heap[gb141]? = some (.cells #[(.slice A0_0 l0_0.length c0_0), .int .i64 a0_1, .int .i64 a0_2, .int .i64 a0_3] 38 (0, 0))) ∧ Aside0 (w'.heap[gb142]? = some (.cells #[(.slice A1_0 l1_0.length c1_0), .int .i64 a1_1, .int .i64 a1_2, .int .i64 a1_3] 38 (0, 0))) ∧ Aside0 (Below w.heap.size w w'))
  case atStart => exact ⟨(0), (by first | rfl | (simp; done) | (simp [*]; done)), H', ⟨Nat.le_refl _⟩, ⟨by (with_reducible repeat (first | refine blk_drewN ?_ _ | refine blk_drew ?_ | refine blk_alloc ?_ _)); exact BK141.out⟩, ⟨by (with_reducible repeat (first | refine blk_drewN ?_ _ | refine blk_drew ?_ | refine blk_alloc ?_ _)); exact BK142.out⟩, ⟨by repeat (first | (with_reducible first | exact HB.out | apply below_alloc | apply pw_below_drewN | apply below_drew1 | refine below_set ?_ GE141.out | refine below_set ?_ GE142.out) | exact HB.out)⟩⟩
  case round =>
   clear H'
   try clear c1
   try clear p2
   try clear c3
   try clear c3b0
   try clear c3b1
   try clear c3b2
   try clear c6
   try clear hcz7_0
   try clear hcz7_1
   try clear hcz7_2
   try clear hcz7_3
   try clear hcz8_0
   try clear hcz8_1
   try clear hcz8_2
   try clear hcz8_3
   try clear hfz7_0
   try clear hfz7_1
   try clear hfz7_2
   try clear hfz7_3
   try clear hfz8_0
   try clear hfz8_1
   try clear hfz8_2
   try clear hfz8_3
   obtain ⟨x5_1, rfl, HA, HK1, BK141, BK142, HB⟩ := hrel
   cases gk with
   | zero => exact absurd HA.out (by simp [chargeparkref33_Same.l0])
   | succ k1 =>
    have H := HA.out
    clear HA
    simp only [chargeparkref33_Same.l0] at H
    by_cases c9 : x5_1 < (l0_0.length : Int)
    ·rw [if_pos c9] at H
     have c9b0 : decide (x5_1 < (l0_0.length : Int)) = true := decide_eq_true c9
     clear c9
     by_cases c10 : 0 ≤ x5_1
     ·rw [if_pos c10] at H
      have c10b0 : decide (0 ≤ x5_1) = true := decide_eq_true c10
      clear c10
      by_cases c11 : x5_1 < (l1_0.length : Int)
      ·rw [if_pos c11] at H
       have c11b0 : decide (x5_1 < (l1_0.length : Int)) = true := decide_eq_true c11
       clear c11
       by_cases c12 : (!(((rd_T48 l0_0 x5_1).f0) == ((rd_T48 l1_0 x5_1).f0)) || (!(((rd_T48 l0_0 x5_1).f1) == ((rd_T48 l1_0 x5_1).f1)))) = true
       ·rw [if_pos c12] at H
        have c12b0 : (!(((rd_T48 l0_0 x5_1).f0) == ((rd_T48 l1_0 x5_1).f0)) || (!(((rd_T48 l0_0 x5_1).f1) == ((rd_T48 l1_0 x5_1).f1)))) = true := c12
        clear c12
        obtain rfl := Option.some.inj H
        have hnb13 := NB141_142.out
        have hnc13 := NB142_141.out
        have hcz14_0 : wr.cell? ⟨gb141, 0, none⟩ = some (.slice A0_0 l0_0.length c0_0) := bc_ BK141 0
        have hcz14_1 : wr.cell? ⟨gb141, 1, none⟩ = some (.int .i64 a0_1) := bc_ BK141 1
        have hcz14_2 : wr.cell? ⟨gb141, 2, none⟩ = some (.int .i64 a0_2) := bc_ BK141 2
        have hcz14_3 : wr.cell? ⟨gb141, 3, none⟩ = some (.int .i64 a0_3) := bc_ BK141 3
        have hfz14_0 := blk_frozen BK141.out 0
        have hfz14_1 := blk_frozen BK141.out 1
        have hfz14_2 := blk_frozen BK141.out 2
        have hfz14_3 := blk_frozen BK141.out 3
        have p143 : 0 ≤ (x5_1 : Int) := of_decide_eq_true (by first | (with_reducible assumption) | assumption)
        have q143 : x5_1 < (l0_0.length : Int) := of_decide_eq_true (by first | (with_reducible assumption) | assumption)
        obtain ⟨ad143, e143, hx143_0, hx143_1⟩ := at_T48 HR0_0.out x5_1 p143 q143
        cases e143
        replace hx143_0 := (HB.out.cell (World.block_lt_of_cell? w _ hx143_0)).trans hx143_0
        replace hx143_1 := (HB.out.cell (World.block_lt_of_cell? w _ hx143_1)).trans hx143_1
        replace p143 := eq_true p143
        replace q143 := eq_true q143
        have hcz15_0 : wr.cell? ⟨gb142, 0, none⟩ = some (.slice A1_0 l1_0.length c1_0) := bc_ BK142 0
        have hcz15_1 : wr.cell? ⟨gb142, 1, none⟩ = some (.int .i64 a1_1) := bc_ BK142 1
        have hcz15_2 : wr.cell? ⟨gb142, 2, none⟩ = some (.int .i64 a1_2) := bc_ BK142 2
        have hcz15_3 : wr.cell? ⟨gb142, 3, none⟩ = some (.int .i64 a1_3) := bc_ BK142 3
        have hfz15_0 := blk_frozen BK142.out 0
        have hfz15_1 := blk_frozen BK142.out 1
        have hfz15_2 := blk_frozen BK142.out 2
        have hfz15_3 := blk_frozen BK142.out 3
        have p144 : 0 ≤ (x5_1 : Int) := of_decide_eq_true (by first | (with_reducible assumption) | assumption)
        have q144 : x5_1 < (l1_0.length : Int) := of_decide_eq_true (by first | (with_reducible assumption) | assumption)
        obtain ⟨ad144, e144, hx144_0, hx144_1⟩ := at_T48 HR1_0.out x5_1 p144 q144
        cases e144
        replace hx144_0 := (HB.out.cell (World.block_lt_of_cell? w _ hx144_0)).trans hx144_0
        replace hx144_1 := (HB.out.cell (World.block_lt_of_cell? w _ hx144_1)).trans hx144_1
        replace p144 := eq_true p144
        replace q144 := eq_true q144
        go_wp2
        repeat (go_quiet (fail); try go_wp2)
        go_ret
        exact ⟨by first | rfl | (simp [errW_none, errW_some] <;> rfl) | (simp [*, errW_none, errW_some] <;> rfl), by repeat (first | (with_reducible first | exact HB.out | apply below_alloc | apply pw_below_drewN | apply below_drew1 | refine below_set ?_ GE141.out | refine below_set ?_ GE142.out) | exact HB.out)⟩
       ·rw [if_neg c12] at H
        have c12b0 : (!(((rd_T48 l0_0 x5_1).f0) == ((rd_T48 l1_0 x5_1).f0)) || (!(((rd_T48 l0_0 x5_1).f1) == ((rd_T48 l1_0 x5_1).f1)))) = false := by simpa using c12
        clear c12
        have H' := Aside0.mk H
        clear H
        have hnb16 := NB141_142.out
        have hnc16 := NB142_141.out
        have hcz17_0 : wr.cell? ⟨gb141, 0, none⟩ = some (.slice A0_0 l0_0.length c0_0) := bc_ BK141 0
        have hcz17_1 : wr.cell? ⟨gb141, 1, none⟩ = some (.int .i64 a0_1) := bc_ BK141 1
        have hcz17_2 : wr.cell? ⟨gb141, 2, none⟩ = some (.int .i64 a0_2) := bc_ BK141 2
        have hcz17_3 : wr.cell? ⟨gb141, 3, none⟩ = some (.int .i64 a0_3) := bc_ BK141 3
        have hfz17_0 := blk_frozen BK141.out 0
        have hfz17_1 := blk_frozen BK141.out 1
        have hfz17_2 := blk_frozen BK141.out 2
        have hfz17_3 := blk_frozen BK141.out 3
        have p143 : 0 ≤ (x5_1 : Int) := of_decide_eq_true (by first | (with_reducible assumption) | assumption)
        have q143 : x5_1 < (l0_0.length : Int) := of_decide_eq_true (by first | (with_reducible assumption) | assumption)
        obtain ⟨ad143, e143, hx143_0, hx143_1⟩ := at_T48 HR0_0.out x5_1 p143 q143
        cases e143
        replace hx143_0 := (HB.out.cell (World.block_lt_of_cell? w _ hx143_0)).trans hx143_0
        replace hx143_1 := (HB.out.cell (World.block_lt_of_cell? w _ hx143_1)).trans hx143_1
        replace p143 := eq_true p143
        replace q143 := eq_true q143
        have hcz18_0 : wr.cell? ⟨gb142, 0, none⟩ = some (.slice A1_0 l1_0.length c1_0) := bc_ BK142 0
        have hcz18_1 : wr.cell? ⟨gb142, 1, none⟩ = some (.int .i64 a1_1) := bc_ BK142 1
        have hcz18_2 : wr.cell? ⟨gb142, 2, none⟩ = some (.int .i64 a1_2) := bc_ BK142 2
        have hcz18_3 : wr.cell? ⟨gb142, 3, none⟩ = some (.int .i64 a1_3) := bc_ BK142 3
        have hfz18_0 := blk_frozen BK142.out 0
        have hfz18_1 := blk_frozen BK142.out 1
        have hfz18_2 := blk_frozen BK142.out 2
        have hfz18_3 := blk_frozen BK142.out 3
        have p144 : 0 ≤ (x5_1 : Int) := of_decide_eq_true (by first | (with_reducible assumption) | assumption)
        have q144 : x5_1 < (l1_0.length : Int) := of_decide_eq_true (by first | (with_reducible assumption) | assumption)
        obtain ⟨ad144, e144, hx144_0, hx144_1⟩ := at_T48 HR1_0.out x5_1 p144 q144
        cases e144
        replace hx144_0 := (HB.out.cell (World.block_lt_of_cell? w _ hx144_0)).trans hx144_0
        replace hx144_1 := (HB.out.cell (World.block_lt_of_cell? w _ hx144_1)).trans hx144_1
        replace p144 := eq_true p144
        replace q144 := eq_true q144
        go_wp2
        repeat (go_quiet (fail); try go_wp2)
        go_roundg k1
        case measure => have := HK1.out; omega
        case rel => exact ⟨(wrap64 (x5_1 + 1)), (by first | rfl | (simp; done) | (simp [*]; done)), H', ⟨by have := HK1.out; omega⟩, ⟨by (with_reducible repeat (first | refine blk_drewN ?_ _ | refine blk_drew ?_ | refine blk_alloc ?_ _)); exact BK141.out⟩, ⟨by (with_reducible repeat (first | refine blk_drewN ?_ _ | refine blk_drew ?_ | refine blk_alloc ?_ _)); exact BK142.out⟩, ⟨by repeat (first | (with_reducible first | exact HB.out | apply below_alloc | apply pw_below_drewN | apply below_drew1 | refine below_set ?_ GE141.out | refine below_set ?_ GE142.out) | exact HB.out)⟩⟩
      ·rw [if_neg c11] at H
       exact absurd H (by simp)
     ·rw [if_neg c10] at H
      exact absurd H (by simp)
    ·rw [if_neg c9] at H
     have c9b0 : decide (x5_1 < (l0_0.length : Int)) = false := decide_eq_false c9
     clear c9
     by_cases c19 : a0_1 = a1_1
     ·rw [if_pos c19] at H
      have c19b0 : (a0_1 == a1_1) = true := beq_iff_eq.mpr c19
      have c19b1 : (a0_1 != a1_1) = false := bne_eq_false_iff_eq.mpr c19
      clear c19
      by_cases c20 : a0_2 = a1_2
      ·rw [if_pos c20] at H
       have c20b0 : (a0_2 == a1_2) = true := beq_iff_eq.mpr c20
       have c20b1 : (a0_2 != a1_2) = false := bne_eq_false_iff_eq.mpr c20
       clear c20
       obtain rfl := Option.some.inj H
       have hnb21 := NB141_142.out
       have hnc21 := NB142_141.out
       have hcz22_0 : wr.cell? ⟨gb141, 0, none⟩ = some (.slice A0_0 l0_0.length c0_0) := bc_ BK141 0
       have hcz22_1 : wr.cell? ⟨gb141, 1, none⟩ = some (.int .i64 a0_1) := bc_ BK141 1
       have hcz22_2 : wr.cell? ⟨gb141, 2, none⟩ = some (.int .i64 a0_2) := bc_ BK141 2
       have hcz22_3 : wr.cell? ⟨gb141, 3, none⟩ = some (.int .i64 a0_3) := bc_ BK141 3
       have hfz22_0 := blk_frozen BK141.out 0
       have hfz22_1 := blk_frozen BK141.out 1
       have hfz22_2 := blk_frozen BK141.out 2
       have hfz22_3 := blk_frozen BK141.out 3
       have hcz23_0 : wr.cell? ⟨gb142, 0, none⟩ = some (.slice A1_0 l1_0.length c1_0) := bc_ BK142 0
       have hcz23_1 : wr.cell? ⟨gb142, 1, none⟩ = some (.int .i64 a1_1) := bc_ BK142 1
       have hcz23_2 : wr.cell? ⟨gb142, 2, none⟩ = some (.int .i64 a1_2) := bc_ BK142 2
       have hcz23_3 : wr.cell? ⟨gb142, 3, none⟩ = some (.int .i64 a1_3) := bc_ BK142 3
       have hfz23_0 := blk_frozen BK142.out 0
       have hfz23_1 := blk_frozen BK142.out 1
       have hfz23_2 := blk_frozen BK142.out 2
       have hfz23_3 := blk_frozen BK142.out 3
       go_wp2
       repeat (go_quiet (fail); try go_wp2)
       go_ret
       exact ⟨by first | rfl | (simp [errW_none, errW_some] <;> rfl) | (simp [*, errW_none, errW_some] <;> rfl), by repeat (first | (with_reducible first | exact HB.out | apply below_alloc | apply pw_below_drewN | apply below_drew1 | refine below_set ?_ GE141.out | refine below_set ?_ GE142.out) | exact HB.out)⟩
      ·rw [if_neg c20] at H
       have c20b0 : (a0_2 == a1_2) = false := beq_eq_false_iff_ne.mpr c20
       have c20b1 : (a0_2 != a1_2) = true := bne_iff_ne.mpr c20
       obtain rfl := Option.some.inj H
       have hnb24 := NB141_142.out
       have hnc24 := NB142_141.out
       have hcz25_0 : wr.cell? ⟨gb141, 0, none⟩ = some (.slice A0_0 l0_0.length c0_0) := bc_ BK141 0
       have hcz25_1 : wr.cell? ⟨gb141, 1, none⟩ = some (.int .i64 a0_1) := bc_ BK141 1
       have hcz25_2 : wr.cell? ⟨gb141, 2, none⟩ = some (.int .i64 a0_2) := bc_ BK141 2
       have hcz25_3 : wr.cell? ⟨gb141, 3, none⟩ = some (.int .i64 a0_3) := bc_ BK141 3
       have hfz25_0 := blk_frozen BK141.out 0
       have hfz25_1 := blk_frozen BK141.out 1
       have hfz25_2 := blk_frozen BK141.out 2
       have hfz25_3 := blk_frozen BK141.out 3
       have hcz26_0 : wr.cell? ⟨gb142, 0, none⟩ = some (.slice A1_0 l1_0.length c1_0) := bc_ BK142 0
       have hcz26_1 : wr.cell? ⟨gb142, 1, none⟩ = some (.int .i64 a1_1) := bc_ BK142 1
       have hcz26_2 : wr.cell? ⟨gb142, 2, none⟩ = some (.int .i64 a1_2) := bc_ BK142 2
       have hcz26_3 : wr.cell? ⟨gb142, 3, none⟩ = some (.int .i64 a1_3) := bc_ BK142 3
       have hfz26_0 := blk_frozen BK142.out 0
       have hfz26_1 := blk_frozen BK142.out 1
       have hfz26_2 := blk_frozen BK142.out 2
       have hfz26_3 := blk_frozen BK142.out 3
       go_wp2
       repeat (go_quiet (fail); try go_wp2)
       go_ret
       exact ⟨by first | rfl | (simp [errW_none, errW_some] <;> rfl) | (simp [*, errW_none, errW_some] <;> rfl), by repeat (first | (with_reducible first | exact HB.out | apply below_alloc | apply pw_below_drewN | apply below_drew1 | refine below_set ?_ GE141.out | refine below_set ?_ GE142.out) | exact HB.out)⟩
     ·rw [if_neg c19] at H
      have c19b0 : (a0_1 == a1_1) = false := beq_eq_false_iff_ne.mpr c19
      have c19b1 : (a0_1 != a1_1) = true := bne_iff_ne.mpr c19
      obtain rfl := Option.some.inj H
      have hnb27 := NB141_142.out
      have hnc27 := NB142_141.out
      have hcz28_0 : wr.cell? ⟨gb141, 0, none⟩ = some (.slice A0_0 l0_0.length c0_0) := bc_ BK141 0
      have hcz28_1 : wr.cell? ⟨gb141, 1, none⟩ = some (.int .i64 a0_1) := bc_ BK141 1
      have hcz28_2 : wr.cell? ⟨gb141, 2, none⟩ = some (.int .i64 a0_2) := bc_ BK141 2
      have hcz28_3 : wr.cell? ⟨gb141, 3, none⟩ = some (.int .i64 a0_3) := bc_ BK141 3
      have hfz28_0 := blk_frozen BK141.out 0
      have hfz28_1 := blk_frozen BK141.out 1
      have hfz28_2 := blk_frozen BK141.out 2
      have hfz28_3 := blk_frozen BK141.out 3
      have hcz29_0 : wr.cell? ⟨gb142, 0, none⟩ = some (.slice A1_0 l1_0.length c1_0) := bc_ BK142 0
      have hcz29_1 : wr.cell? ⟨gb142, 1, none⟩ = some (.int .i64 a1_1) := bc_ BK142 1
      have hcz29_2 : wr.cell? ⟨gb142, 2, none⟩ = some (.int .i64 a1_2) := bc_ BK142 2
      have hcz29_3 : wr.cell? ⟨gb142, 3, none⟩ = some (.int .i64 a1_3) := bc_ BK142 3
      have hfz29_0 := blk_frozen BK142.out 0
      have hfz29_1 := blk_frozen BK142.out 1
      have hfz29_2 := blk_frozen BK142.out 2
      have hfz29_3 := blk_frozen BK142.out 3
      go_wp2
      repeat (go_quiet (fail); try go_wp2)
      go_ret
      exact ⟨by first | rfl | (simp [errW_none, errW_some] <;> rfl) | (simp [*, errW_none, errW_some] <;> rfl), by repeat (first | (with_reducible first | exact HB.out | apply below_alloc | apply pw_below_drewN | apply below_drew1 | refine below_set ?_ GE141.out | refine below_set ?_ GE142.out) | exact HB.out)⟩
 ·rw [if_neg c3] at H
  have c3b0 : ((l0_0.length : Int) == (l1_0.length : Int)) = false := beq_eq_false_iff_ne.mpr c3
  have c3b1 : ((l0_0.length : Int) != (l1_0.length : Int)) = true := bne_iff_ne.mpr c3
  have c3b2 : (l0_0.length == l1_0.length) = false := by first | simpa using c3 | (simp at c3 ⊢; omega)
  obtain rfl := Option.some.inj H
  go_enter Try.func31, Try.ntmps31
  go_wp2_with (first | ((with_reducible refine gate_dst (N := 2) rfl ?_); refine box_event ?hg (N := 2) ?hd (cs := #[.slice A0_0 l0_0.length c0_0, .int .i64 a0_1, .int .i64 a0_2, .int .i64 a0_3]) (t := 38) ?hr ?_; (case hd => rfl); (case hg => rfl); (case hr => first | (go_simp; done) | (go_simp; rfl)); intro gb141 hg w30 hbox hb; have n0_ := Aside0.mk (below_step (hb_ HB) hb); have n1_ := Aside0.mk (hbox); have n2_ := Aside0.mk ((by rw [hg]; exact (below_size (hb_ HB)) : w.heap.size ≤ gb141)); have n3_ := Aside0.mk ((by rw [hg]; exact (below_size (hb_ HB)) : w.heap.size ≤ gb141)); clear HB; have HB := n0_; have BK141 := n1_; have GW141 := n2_; have GE141 := n3_; clear n0_ n1_ n2_ n3_; clear hb hbox hg) | ((with_reducible refine gate_dst (N := 3) rfl ?_); refine box_event ?hg (N := 3) ?hd (cs := #[.slice A1_0 l1_0.length c1_0, .int .i64 a1_1, .int .i64 a1_2, .int .i64 a1_3]) (t := 38) ?hr ?_; (case hd => rfl); (case hg => rfl); (case hr => first | (go_simp; done) | (go_simp; rfl)); intro gb142 hg w31 hbox hb; have n0_ := (bb_ BK141 hb); have n1_ := Aside0.mk (below_step (hb_ HB) hb); have n2_ := Aside0.mk (hbox); have n3_ := Aside0.mk ((by rw [hg]; exact (below_size (hb_ HB)) : w.heap.size ≤ gb142)); have n4_ := Aside0.mk ((by rw [hg]; exact (below_size (hb_ HB)) : w.heap.size ≤ gb142)); have n5_ := (nlt_ BK141 hg); have n6_ := (ngt_ BK141 hg); clear BK141; clear HB; have BK141 := n0_; have HB := n1_; have BK142 := n2_; have GW142 := n3_; have GE142 := n4_; have NB141_142 := n5_; have NB142_141 := n6_; clear n0_ n1_ n2_ n3_ n4_ n5_ n6_; clear hb hbox hg; have hnb32 := NB141_142.out; have hnc32 := NB142_141.out; have hcz33_0 : w31.cell? ⟨gb141, 0, none⟩ = some (.slice A0_0 l0_0.length c0_0) := bc_ BK141 0; have hcz33_1 : w31.cell? ⟨gb141, 1, none⟩ = some (.int .i64 a0_1) := bc_ BK141 1; have hcz33_2 : w31.cell? ⟨gb141, 2, none⟩ = some (.int .i64 a0_2) := bc_ BK141 2; have hcz33_3 : w31.cell? ⟨gb141, 3, none⟩ = some (.int .i64 a0_3) := bc_ BK141 3; have hfz33_0 := blk_frozen BK141.out 0; have hfz33_1 := blk_frozen BK141.out 1; have hfz33_2 := blk_frozen BK141.out 2; have hfz33_3 := blk_frozen BK141.out 3; have hcz34_0 : w31.cell? ⟨gb142, 0, none⟩ = some (.slice A1_0 l1_0.length c1_0) := bc_ BK142 0; have hcz34_1 : w31.cell? ⟨gb142, 1, none⟩ = some (.int .i64 a1_1) := bc_ BK142 1; have hcz34_2 : w31.cell? ⟨gb142, 2, none⟩ = some (.int .i64 a1_2) := bc_ BK142 2; have hcz34_3 : w31.cell? ⟨gb142, 3, none⟩ = some (.int .i64 a1_3) := bc_ BK142 3; have hfz34_0 := blk_frozen BK142.out 0; have hfz34_1 := blk_frozen BK142.out 1; have hfz34_2 := blk_frozen BK142.out 2; have hfz34_3 := blk_frozen BK142.out 3))
  repeat (go_quiet (first | ((with_reducible refine gate_dst (N := 2) rfl ?_); refine box_event ?hg (N := 2) ?hd (cs := #[.slice A0_0 l0_0.length c0_0, .int .i64 a0_1, .int .i64 a0_2, .int .i64 a0_3]) (t := 38) ?hr ?_; (case hd => rfl); (case hg => rfl); (case hr => first | (go_simp; done) | (go_simp; rfl)); intro gb141 hg w30 hbox hb; have n0_ := Aside0.mk (below_step (hb_ HB) hb); have n1_ := Aside0.mk (hbox); have n2_ := Aside0.mk ((by rw [hg]; exact (below_size (hb_ HB)) : w.heap.size ≤ gb141)); have n3_ := Aside0.mk ((by rw [hg]; exact (below_size (hb_ HB)) : w.heap.size ≤ gb141)); clear HB; have HB := n0_; have BK141 := n1_; have GW141 := n2_; have GE141 := n3_; clear n0_ n1_ n2_ n3_; clear hb hbox hg) | ((with_reducible refine gate_dst (N := 3) rfl ?_); refine box_event ?hg (N := 3) ?hd (cs := #[.slice A1_0 l1_0.length c1_0, .int .i64 a1_1, .int .i64 a1_2, .int .i64 a1_3]) (t := 38) ?hr ?_; (case hd => rfl); (case hg => rfl); (case hr => first | (go_simp; done) | (go_simp; rfl)); intro gb142 hg w31 hbox hb; have n0_ := (bb_ BK141 hb); have n1_ := Aside0.mk (below_step (hb_ HB) hb); have n2_ := Aside0.mk (hbox); have n3_ := Aside0.mk ((by rw [hg]; exact (below_size (hb_ HB)) : w.heap.size ≤ gb142)); have n4_ := Aside0.mk ((by rw [hg]; exact (below_size (hb_ HB)) : w.heap.size ≤ gb142)); have n5_ := (nlt_ BK141 hg); have n6_ := (ngt_ BK141 hg); clear BK141; clear HB; have BK141 := n0_; have HB := n1_; have BK142 := n2_; have GW142 := n3_; have GE142 := n4_; have NB141_142 := n5_; have NB142_141 := n6_; clear n0_ n1_ n2_ n3_ n4_ n5_ n6_; clear hb hbox hg; have hnb32 := NB141_142.out; have hnc32 := NB142_141.out; have hcz33_0 : w31.cell? ⟨gb141, 0, none⟩ = some (.slice A0_0 l0_0.length c0_0) := bc_ BK141 0; have hcz33_1 : w31.cell? ⟨gb141, 1, none⟩ = some (.int .i64 a0_1) := bc_ BK141 1; have hcz33_2 : w31.cell? ⟨gb141, 2, none⟩ = some (.int .i64 a0_2) := bc_ BK141 2; have hcz33_3 : w31.cell? ⟨gb141, 3, none⟩ = some (.int .i64 a0_3) := bc_ BK141 3; have hfz33_0 := blk_frozen BK141.out 0; have hfz33_1 := blk_frozen BK141.out 1; have hfz33_2 := blk_frozen BK141.out 2; have hfz33_3 := blk_frozen BK141.out 3; have hcz34_0 : w31.cell? ⟨gb142, 0, none⟩ = some (.slice A1_0 l1_0.length c1_0) := bc_ BK142 0; have hcz34_1 : w31.cell? ⟨gb142, 1, none⟩ = some (.int .i64 a1_1) := bc_ BK142 1; have hcz34_2 : w31.cell? ⟨gb142, 2, none⟩ = some (.int .i64 a1_2) := bc_ BK142 2; have hcz34_3 : w31.cell? ⟨gb142, 3, none⟩ = some (.int .i64 a1_3) := bc_ BK142 3; have hfz34_0 := blk_frozen BK142.out 0; have hfz34_1 := blk_frozen BK142.out 1; have hfz34_2 := blk_frozen BK142.out 2; have hfz34_3 := blk_frozen BK142.out 3)); try go_wp2_with (first | ((with_reducible refine gate_dst (N := 2) rfl ?_); refine box_event ?hg (N := 2) ?hd (cs := #[.slice A0_0 l0_0.length c0_0, .int .i64 a0_1, .int .i64 a0_2, .int .i64 a0_3]) (t := 38) ?hr ?_; (case hd => rfl); (case hg => rfl); (case hr => first | (go_simp; done) | (go_simp; rfl)); intro gb141 hg w30 hbox hb; have n0_ := Aside0.mk (below_step (hb_ HB) hb); have n1_ := Aside0.mk (hbox); have n2_ := Aside0.mk ((by rw [hg]; exact (below_size (hb_ HB)) : w.heap.size ≤ gb141)); have n3_ := Aside0.mk ((by rw [hg]; exact (below_size (hb_ HB)) : w.heap.size ≤ gb141)); clear HB; have HB := n0_; have BK141 := n1_; have GW141 := n2_; have GE141 := n3_; clear n0_ n1_ n2_ n3_; clear hb hbox hg) | ((with_reducible refine gate_dst (N := 3) rfl ?_); refine box_event ?hg (N := 3) ?hd (cs := #[.slice A1_0 l1_0.length c1_0, .int .i64 a1_1, .int .i64 a1_2, .int .i64 a1_3]) (t := 38) ?hr ?_; (case hd => rfl); (case hg => rfl); (case hr => first | (go_simp; done) | (go_simp; rfl)); intro gb142 hg w31 hbox hb; have n0_ := (bb_ BK141 hb); have n1_ := Aside0.mk (below_step (hb_ HB) hb); have n2_ := Aside0.mk (hbox); have n3_ := Aside0.mk ((by rw [hg]; exact (below_size (hb_ HB)) : w.heap.size ≤ gb142)); have n4_ := Aside0.mk ((by rw [hg]; exact (below_size (hb_ HB)) : w.heap.size ≤ gb142)); have n5_ := (nlt_ BK141 hg); have n6_ := (ngt_ BK141 hg); clear BK141; clear HB; have BK141 := n0_; have HB := n1_; have BK142 := n2_; have GW142 := n3_; have GE142 := n4_; have NB141_142 := n5_; have NB142_141 := n6_; clear n0_ n1_ n2_ n3_ n4_ n5_ n6_; clear hb hbox hg; have hnb32 := NB141_142.out; have hnc32 := NB142_141.out; have hcz33_0 : w31.cell? ⟨gb141, 0, none⟩ = some (.slice A0_0 l0_0.length c0_0) := bc_ BK141 0; have hcz33_1 : w31.cell? ⟨gb141, 1, none⟩ = some (.int .i64 a0_1) := bc_ BK141 1; have hcz33_2 : w31.cell? ⟨gb141, 2, none⟩ = some (.int .i64 a0_2) := bc_ BK141 2; have hcz33_3 : w31.cell? ⟨gb141, 3, none⟩ = some (.int .i64 a0_3) := bc_ BK141 3; have hfz33_0 := blk_frozen BK141.out 0; have hfz33_1 := blk_frozen BK141.out 1; have hfz33_2 := blk_frozen BK141.out 2; have hfz33_3 := blk_frozen BK141.out 3; have hcz34_0 : w31.cell? ⟨gb142, 0, none⟩ = some (.slice A1_0 l1_0.length c1_0) := bc_ BK142 0; have hcz34_1 : w31.cell? ⟨gb142, 1, none⟩ = some (.int .i64 a1_1) := bc_ BK142 1; have hcz34_2 : w31.cell? ⟨gb142, 2, none⟩ = some (.int .i64 a1_2) := bc_ BK142 2; have hcz34_3 : w31.cell? ⟨gb142, 3, none⟩ = some (.int .i64 a1_3) := bc_ BK142 3; have hfz34_0 := blk_frozen BK142.out 0; have hfz34_1 := blk_frozen BK142.out 1; have hfz34_2 := blk_frozen BK142.out 2; have hfz34_3 := blk_frozen BK142.out 3)))
  go_ret
  exact ⟨by first | rfl | (simp [errW_none, errW_some] <;> rfl) | (simp [*, errW_none, errW_some] <;> rfl), by repeat (first | (with_reducible first | exact HB.out | apply below_alloc | apply pw_below_drewN | apply below_drew1 | refine below_set ?_ GE141.out | refine below_set ?_ GE142.out) | exact HB.out)⟩

/-! ### chargeparklaw33_article: function 35 -/
def chargeparklaw33_article.f (a0 : Int) (a1 : Int) (a2 : Int) (a3 : Int) : Option (Int × Int × Int × Int × Int × Int × Int) := some (a0, 7, 0, 1440, a1, a2, a3)
set_option maxHeartbeats 8000000 in
set_option maxRecDepth 100000 in
theorem chargeparklaw33_article.calls (a0 : Int) (a1 : Int) (a2 : Int) (a3 : Int) (r1 : Int) (r2 : Int) (r3 : Int) (r4 : Int) (r5 : Int) (r6 : Int) (r7 : Int) (w : World) (h : chargeparklaw33_article.f a0 a1 a2 a3 = some (r1, r2, r3, r4, r5, r6, r7)) :
  Calls Try.prog 35 #[.int .i64 a0, .int .i64 a1, .int .i64 a2, .int .i64 a3] w fun e w' => e = .returned (.agg #[.int .i64 r1, .int .i64 r2, .int .i64 r3, .int .i64 r4, .int .i64 r5, .int .i64 r6, .int .i64 r7]) ∧ Below w.heap.size w w' := by
 have hu26 := Try.underlying26
 have HB := Aside0.mk (Below.refl w.heap.size w)
 have H : (some (a0, 7, 0, 1440, a1, a2, a3)) = some (r1, r2, r3, r4, r5, r6, r7) := h
 clear h
 simp only [Option.some.injEq, Prod.mk.injEq] at H
 obtain ⟨rfl, rfl, rfl, rfl, rfl, rfl, rfl⟩ := H
 go_enter Try.func35, Try.ntmps35
 go_wp2_with (first | ((with_reducible refine gate_dst (N := 8) rfl ?_); refine box_event ?hg (N := 8) ?hd (cs := #[.int .i64 0, .int .i64 0, .int .i64 0, .int .i64 0, .int .i64 0, .int .i64 0, .int .i64 0]) (t := 26) ?hr ?_; (case hd => rfl); (case hg => rfl); (case hr => first | (go_simp; done) | (go_simp; rfl)); intro gb145 hg w5 hbox hb; have n0_ := Aside0.mk (below_step (hb_ HB) hb); have n1_ := Aside0.mk (hbox); have n2_ := Aside0.mk ((by rw [hg]; exact (below_size (hb_ HB)) : w.heap.size ≤ gb145)); have n3_ := Aside0.mk ((by rw [hg]; exact (below_size (hb_ HB)) : w.heap.size ≤ gb145)); clear HB; have HB := n0_; have BK145 := n1_; have GW145 := n2_; have GE145 := n3_; clear n0_ n1_ n2_ n3_; clear hb hbox hg; have hcz6_0 : w5.cell? ⟨gb145, 0, none⟩ = some (.int .i64 0) := bc_ BK145 0; have hcz6_1 : w5.cell? ⟨gb145, 1, none⟩ = some (.int .i64 0) := bc_ BK145 1; have hcz6_2 : w5.cell? ⟨gb145, 2, none⟩ = some (.int .i64 0) := bc_ BK145 2; have hcz6_3 : w5.cell? ⟨gb145, 3, none⟩ = some (.int .i64 0) := bc_ BK145 3; have hcz6_4 : w5.cell? ⟨gb145, 4, none⟩ = some (.int .i64 0) := bc_ BK145 4; have hcz6_5 : w5.cell? ⟨gb145, 5, none⟩ = some (.int .i64 0) := bc_ BK145 5; have hcz6_6 : w5.cell? ⟨gb145, 6, none⟩ = some (.int .i64 0) := bc_ BK145 6; have hfz6_0 := blk_frozen BK145.out 0; have hfz6_1 := blk_frozen BK145.out 1; have hfz6_2 := blk_frozen BK145.out 2; have hfz6_3 := blk_frozen BK145.out 3; have hfz6_4 := blk_frozen BK145.out 4; have hfz6_5 := blk_frozen BK145.out 5; have hfz6_6 := blk_frozen BK145.out 6))
 refine bodyPost_ret (results_cell_row rfl _ _ gb145 26 #[.int .i64 a0, .int .i64 7, .int .i64 0, .int .i64 1440, .int .i64 a1, .int .i64 a2, .int .i64 a3] (0, 0) _ rfl (by (with_reducible repeat (first | refine blk_drewN ?_ _ | refine blk_drew ?_ | refine blk_alloc ?_ _)); refine blk_put (cs := #[.int .i64 a0, .int .i64 7, .int .i64 0, .int .i64 1440, .int .i64 a1, .int .i64 a2, .int .i64 0]) ?_ 6 _ rfl; (with_reducible repeat (first | refine blk_drewN ?_ _ | refine blk_drew ?_ | refine blk_alloc ?_ _)); refine blk_put (cs := #[.int .i64 a0, .int .i64 7, .int .i64 0, .int .i64 1440, .int .i64 a1, .int .i64 0, .int .i64 0]) ?_ 5 _ rfl; (with_reducible repeat (first | refine blk_drewN ?_ _ | refine blk_drew ?_ | refine blk_alloc ?_ _)); refine blk_put (cs := #[.int .i64 a0, .int .i64 7, .int .i64 0, .int .i64 1440, .int .i64 0, .int .i64 0, .int .i64 0]) ?_ 4 _ rfl; (with_reducible repeat (first | refine blk_drewN ?_ _ | refine blk_drew ?_ | refine blk_alloc ?_ _)); refine blk_put (cs := #[.int .i64 a0, .int .i64 7, .int .i64 0, .int .i64 0, .int .i64 0, .int .i64 0, .int .i64 0]) ?_ 3 _ rfl; (with_reducible repeat (first | refine blk_drewN ?_ _ | refine blk_drew ?_ | refine blk_alloc ?_ _)); refine blk_put (cs := #[.int .i64 a0, .int .i64 7, .int .i64 0, .int .i64 0, .int .i64 0, .int .i64 0, .int .i64 0]) ?_ 2 _ rfl; (with_reducible repeat (first | refine blk_drewN ?_ _ | refine blk_drew ?_ | refine blk_alloc ?_ _)); refine blk_put (cs := #[.int .i64 a0, .int .i64 0, .int .i64 0, .int .i64 0, .int .i64 0, .int .i64 0, .int .i64 0]) ?_ 1 _ rfl; (with_reducible repeat (first | refine blk_drewN ?_ _ | refine blk_drew ?_ | refine blk_alloc ?_ _)); refine blk_put (cs := #[.int .i64 0, .int .i64 0, .int .i64 0, .int .i64 0, .int .i64 0, .int .i64 0, .int .i64 0]) ?_ 0 _ rfl; (with_reducible repeat (first | refine blk_drewN ?_ _ | refine blk_drew ?_ | refine blk_alloc ?_ _)); exact BK145.out) Try.underlying26 rfl (by kernel_rfl)) rfl ?_
 exact ⟨by first | rfl | (simp [errW_none, errW_some] <;> rfl) | (simp [*, errW_none, errW_some] <;> rfl), by repeat (first | (with_reducible first | exact HB.out | apply below_alloc | apply pw_below_drewN | apply below_drew1 | refine below_set ?_ GE145.out) | exact HB.out)⟩

/-! ### chargeparklaw33_tariffOf: function 54 -/
def chargeparklaw33_tariffOf.f (l0 : List (S26)) : Option (ByteArray × (List (S26))) := some ((⟨#[116]⟩ : ByteArray), l0)
set_option maxHeartbeats 8000000 in
set_option maxRecDepth 100000 in
theorem chargeparklaw33_tariffOf.calls (P0_ : Nat → Prop) (u9000_ : Value) (l0 : List (S26)) (r1 : ByteArray) (r2 : List (S26)) (w0 w : World) (hB : Below w0.heap.size w0 w) (ho0 : Kd.R k26 26 w w0.heap.size P0_ u9000_ l0) (h : chargeparklaw33_tariffOf.f l0 = some (r1, r2)) :
  Calls Try.prog 54 #[u9000_] w fun e w' => ∃ v1_ : Value, e = .returned (.agg #[.string r1, v1_]) ∧ Kd.R k26 26 w' w0.heap.size (fun k_ => (P0_ k_ ∨ w.heap.size ≤ k_)) v1_ r2 ∧ Below w0.heap.size w0 w' ∧ Kept w w' (fun k_ => P0_ k_) := by
 have hu24 := Try.underlying24
 have HO0 := Aside0.mk (show Kd.R k26 26 w w0.heap.size (fun k_ => (P0_ k_ ∨ w.heap.size ≤ k_)) u9000_ l0 from Kd.R_mono ho0 (fun k_ hk => (.inl hk)))
 have HK := Aside0.mk (Kept.refl w (fun k_ => P0_ k_))
 have HW0 := Aside0.mk hB.size
 have HB := Aside0.mk hB
 clear hB
 have H : (some ((⟨#[116]⟩ : ByteArray), l0)) = some (r1, r2) := h
 clear h
 simp only [Option.some.injEq, Prod.mk.injEq] at H
 obtain ⟨rfl, rfl⟩ := H
 go_enter Try.func54, Try.ntmps54
 go_wp2_with (first | ((with_reducible refine gate_dst (N := 2) rfl ?_); refine box_event ?hg (N := 2) ?hd (cs := #[.string (⟨#[]⟩ : ByteArray), .slice none 0 0]) (t := 24) ?hr ?_; (case hd => rfl); (case hg => rfl); (case hr => first | (go_simp; done) | (go_simp; rfl)); intro gb146 hg w2 hbox hb; have n0_ := Aside0.mk (Kd.R_below (kr_ HO0) hb); have n1_ := Aside0.mk (Kept.below (S := (fun k_ => P0_ k_)) (by repeat (first | (with_reducible first | exact HK.out | apply Kept.alloc | apply Kept.drewN | apply Kept.drew) | exact HK.out)) hb); have n2_ := Aside0.mk (below_step (hb_ HB) hb); have n3_ := Aside0.mk (hbox); have n4_ := Aside0.mk ((by rw [hg]; exact (by first | exact HK.out.1 | exact (show Kept w _ (fun k_ => P0_ k_) from by repeat (first | (with_reducible first | exact HK.out | apply Kept.alloc | apply Kept.drewN | apply Kept.drew) | exact HK.out)).1) : w.heap.size ≤ gb146)); have n5_ := Aside0.mk ((by rw [hg]; exact (below_size (hb_ HB)) : w0.heap.size ≤ gb146)); clear HO0; clear HK; clear HB; have HO0 := n0_; have HK := n1_; have HB := n2_; have BK146 := n3_; have GW146 := n4_; have GE146 := n5_; clear n0_ n1_ n2_ n3_ n4_ n5_; clear hb hbox hg; obtain ⟨Ao3, co3, eo3⟩ := Kd.R_slice HO0.out; subst eo3; have hcz4_0 : w2.cell? ⟨gb146, 0, none⟩ = some (.string (⟨#[]⟩ : ByteArray)) := bc_ BK146 0; have hcz4_1 : w2.cell? ⟨gb146, 1, none⟩ = some (.slice none 0 0) := bc_ BK146 1; have hfz4_0 := blk_frozen BK146.out 0; have hfz4_1 := blk_frozen BK146.out 1))
 refine bodyPost_ret (results_cell_row rfl _ _ gb146 24 #[.string (⟨#[116]⟩ : ByteArray), .slice Ao3 l0.length co3] (0, 0) _ rfl (by (with_reducible repeat (first | refine blk_drewN ?_ _ | refine blk_drew ?_ | refine blk_alloc ?_ _)); refine blk_put (cs := #[.string (⟨#[116]⟩ : ByteArray), .slice none 0 0]) ?_ 1 _ rfl; (with_reducible repeat (first | refine blk_drewN ?_ _ | refine blk_drew ?_ | refine blk_alloc ?_ _)); refine blk_put (cs := #[.string (⟨#[]⟩ : ByteArray), .slice none 0 0]) ?_ 0 _ rfl; (with_reducible repeat (first | refine blk_drewN ?_ _ | refine blk_drew ?_ | refine blk_alloc ?_ _)); exact BK146.out) Try.underlying24 rfl (by kernel_rfl)) rfl ?_
 exact ⟨_, by first | rfl | (simp [errW_none, errW_some] <;> rfl) | (simp [*, errW_none, errW_some] <;> rfl), by (with_reducible repeat (first | apply Kd.R_alloc | apply Kd.R_drewN | apply Kd.R_drew)); exact Kd.R_mono (Kd.R_far (p := ⟨gb146, 1, none⟩) (Kd.R_far (p := ⟨gb146, 0, none⟩) (Kd.R_types HO0.out BK146.out (by decide)) (fun _ hk => hk.2) (.string (⟨#[116]⟩ : ByteArray))) (fun _ hk => hk.2) (.slice Ao3 l0.length co3)) (fun _ hk => hk.1), by repeat (first | (with_reducible first | exact HB.out | apply below_alloc | apply pw_below_drewN | apply below_drew1 | refine below_set ?_ GE146.out) | exact HB.out), by repeat (first | (with_reducible first | exact HK.out | apply Kept.alloc | apply Kept.drewN | apply Kept.drew | refine Kept.setCell ?_ (.inr GW146.out) _) | exact HK.out)⟩

/-! ### chargeparklaw33_example: function 55 -/
def chargeparklaw33_example.f  : Option (Int × Int × Int × (List (S50))) := some (600, 660, 640, (([(⟨610, 5000⟩ : S50)] : List (S50))))
set_option maxHeartbeats 8000000 in
set_option maxRecDepth 100000 in
theorem chargeparklaw33_example.calls  (r1 : Int) (r2 : Int) (r3 : Int) (r4 : List (S50)) (w : World) (h : chargeparklaw33_example.f  = some (r1, r2, r3, r4)) :
  Calls Try.prog 55 #[] w fun e w' => ∃ v3_ : Value, e = .returned (.agg #[.int .i64 r1, .int .i64 r2, .int .i64 r3, v3_]) ∧ Kd.R k50 50 w' w.heap.size (fun _ => True) v3_ r4 ∧ Below w.heap.size w w' := by
 have hu33 := Try.underlying33
 have hu50 := Try.underlying50
 have HB := Aside0.mk (Below.refl w.heap.size w)
 have H : (some (600, 660, 640, (([(⟨610, 5000⟩ : S50)] : List (S50))))) = some (r1, r2, r3, r4) := h
 clear h
 obtain ⟨y148, hy148⟩ : ∃ y_ : List (S50), y_ = (([(⟨610, 5000⟩ : S50)] : List (S50))) := ⟨_, rfl⟩
 replace H : (some (600, 660, 640, y148)) = some (r1, r2, r3, r4) := by first | (rw [hy148]; with_reducible exact H) | (have H2_ := (Option.bind_some _ _).symm.trans H; rw [hy148]; with_reducible exact H2_) | (have H2_ := (Option.bind_some _ _).symm.trans H; with_reducible exact H2_) | with_reducible exact H | (rw [hy148]; exact H) | exact H
 have Ny148 := Aside0.mk hy148
 clear hy148
 simp only [Option.some.injEq, Prod.mk.injEq] at H
 obtain ⟨rfl, rfl, rfl, rfl⟩ := H
 go_enter Try.func55, Try.ntmps55
 go_wp2_with (first | ((with_reducible refine gate_dst (N := 0) rfl ?_); refine box_event ?hg (N := 0) ?hd (cs := #[.int .i64 0, .int .i64 0, .int .i64 0, .slice none 0 0]) (t := 33) ?hr ?_; (case hd => rfl); (case hg => rfl); (case hr => first | (go_simp; done) | (go_simp; rfl)); intro gb147 hg w1 hbox hb; have n0_ := Aside0.mk (below_step (hb_ HB) hb); have n1_ := Aside0.mk (hbox); have n2_ := Aside0.mk ((by rw [hg]; exact (below_size (hb_ HB)) : w.heap.size ≤ gb147)); have n3_ := Aside0.mk ((by rw [hg]; exact (below_size (hb_ HB)) : w.heap.size ≤ gb147)); clear HB; have HB := n0_; have BK147 := n1_; have GW147 := n2_; have GE147 := n3_; clear n0_ n1_ n2_ n3_; clear hb hbox hg) | ((with_reducible refine gate_dst (N := 2) rfl ?_); refine Kd.R_lit k50 _ 50 ?hg (N := 2) ?hd (xs := ([(⟨610, 5000⟩ : S50)] : List (S50))) (inner := [.int .i64 610, .int .i64 5000]) (ok := fun _ => True) (okp := fun _ => True) ?hr ?hp (fun _ hk => hk) trivial (Below.refl _ _) (Nat.le_refl _) (by simp) ?_; (case hd => rfl); (case hg => rfl); (case hr => first | (go_simp; done) | (go_simp; rfl)); (case hp => exact (Reps.c2 (show Kd.M k50 _ _ _ (⟨610, 5000⟩ : S50) [.int .i64 610, .int .i64 5000] from (k50_mkM _ _ _ (⟨610, 5000⟩ : S50) )) (Reps.none _ _))); intro v149 w2 ho3 hb hg_ hnew_; clear hg_ hnew_; (first | rw [← Ny148.out] at ho3 | (simp only [Int.reduceToNat] at ho3; rw [← Ny148.out] at ho3)); have n0_ := Aside0.mk (Kd.R_lower ho3 (below_size (hb_ HB))); have n1_ := (bb_ BK147 hb); have n2_ := Aside0.mk (below_step (hb_ HB) hb); clear BK147; clear HB; have HO150 := n0_; have BK147 := n1_; have HB := n2_; clear n0_ n1_ n2_; clear hb ho3; obtain ⟨Ao4, co4, eo4⟩ := Kd.R_slice HO150.out; subst eo4; have hcz5_0 : w2.cell? ⟨gb147, 0, none⟩ = some (.int .i64 0) := bc_ BK147 0; have hcz5_1 : w2.cell? ⟨gb147, 1, none⟩ = some (.int .i64 0) := bc_ BK147 1; have hcz5_2 : w2.cell? ⟨gb147, 2, none⟩ = some (.int .i64 0) := bc_ BK147 2; have hcz5_3 : w2.cell? ⟨gb147, 3, none⟩ = some (.slice none 0 0) := bc_ BK147 3; have hfz5_0 := blk_frozen BK147.out 0; have hfz5_1 := blk_frozen BK147.out 1; have hfz5_2 := blk_frozen BK147.out 2; have hfz5_3 := blk_frozen BK147.out 3))
 refine bodyPost_ret (results_cell_row rfl _ _ gb147 33 #[.int .i64 600, .int .i64 660, .int .i64 640, .slice Ao4 y148.length co4] (0, 0) _ rfl (by (with_reducible repeat (first | refine blk_drewN ?_ _ | refine blk_drew ?_ | refine blk_alloc ?_ _)); refine blk_put (cs := #[.int .i64 600, .int .i64 660, .int .i64 640, .slice none 0 0]) ?_ 3 _ rfl; (with_reducible repeat (first | refine blk_drewN ?_ _ | refine blk_drew ?_ | refine blk_alloc ?_ _)); refine blk_put (cs := #[.int .i64 600, .int .i64 660, .int .i64 0, .slice none 0 0]) ?_ 2 _ rfl; (with_reducible repeat (first | refine blk_drewN ?_ _ | refine blk_drew ?_ | refine blk_alloc ?_ _)); refine blk_put (cs := #[.int .i64 600, .int .i64 0, .int .i64 0, .slice none 0 0]) ?_ 1 _ rfl; (with_reducible repeat (first | refine blk_drewN ?_ _ | refine blk_drew ?_ | refine blk_alloc ?_ _)); refine blk_put (cs := #[.int .i64 0, .int .i64 0, .int .i64 0, .slice none 0 0]) ?_ 0 _ rfl; (with_reducible repeat (first | refine blk_drewN ?_ _ | refine blk_drew ?_ | refine blk_alloc ?_ _)); exact BK147.out) Try.underlying33 rfl (by kernel_rfl)) rfl ?_
 exact ⟨_, by first | rfl | (simp [errW_none, errW_some] <;> rfl) | (simp [*, errW_none, errW_some] <;> rfl), by (with_reducible repeat (first | apply Kd.R_alloc | apply Kd.R_drewN | apply Kd.R_drew)); exact Kd.R_mono (Kd.R_far (p := ⟨gb147, 3, none⟩) (Kd.R_far (p := ⟨gb147, 2, none⟩) (Kd.R_far (p := ⟨gb147, 1, none⟩) (Kd.R_far (p := ⟨gb147, 0, none⟩) (Kd.R_types HO150.out BK147.out (by decide)) (fun _ hk => hk.2) (.int .i64 600)) (fun _ hk => hk.2) (.int .i64 660)) (fun _ hk => hk.2) (.int .i64 640)) (fun _ hk => hk.2) (.slice Ao4 y148.length co4)) (fun _ hk => trivial), by repeat (first | (with_reducible first | exact HB.out | apply below_alloc | apply pw_below_drewN | apply below_drew1 | refine below_set ?_ GE147.out) | exact HB.out)⟩

end Go.Proofs.Ytbkkgaiokmnmgaa.Pr
