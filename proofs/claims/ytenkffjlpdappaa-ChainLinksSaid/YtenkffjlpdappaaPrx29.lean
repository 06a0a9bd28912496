-- Printed by hprint.py (a program of this claim's session over the kit's printer).
import Derived.Test.YtenkffjlpdappaaPrx0
import Derived.Test.YtenkffjlpdappaaPrx22
import Derived.Test.YtenkffjlpdappaaHChain
import Derived.Test.YtenkffjlpdappaaHChange40
namespace Go.Proofs.Ytenkffjlpdappaa.Pr
open Go.RowKit Go.Proofs.YtenkffjlpdappaaW.PrintWords Go.Proofs.YtenkffjlpdappaaW.PrintLast
set_option linter.unusedVariables false
set_option linter.unusedSimpArgs false

/-! ### chargeparklaw40_ChainLinks: function 15 -/
def chargeparklaw40_ChainLinks.f (a0 : Int) (a1 : Int) (a2_0 : Int) (a2_1 : Int) (a2_2 : Int) (a2_3 : Int) (a2_4 : Int) (a3 : Int) (a4 : Int) (a5 : Int) : Option (Bool) := (chargeparklaw40_head.f).bind fun t526 => ((chargeparklaw40_changed.f a2_0 a2_1 a2_2 a2_3 a2_4 (Int.tmod a3 4) a4 a5).bind fun bt527 => (if t526 = true then ((chain_Link.f a0 a2_0 a2_1 a2_2 a2_3 a2_4).bind fun t534 => ((chain_Link.f a1 a2_0 a2_1 a2_2 a2_3 a2_4).bind fun t535 => (if ((t534 == t535) == (a0 == a1)) = true then ((chain_Link.f a0 a2_0 a2_1 a2_2 a2_3 a2_4).bind fun t536 => ((chain_Link.f a0 bt527.1 bt527.2.1 bt527.2.2.1 bt527.2.2.2.1 bt527.2.2.2.2).bind fun t537 => (if ((t536 == t537) == (a5 == 0)) = true then ((chain_Link.f a0 a2_0 a2_1 a2_2 a2_3 a2_4).bind fun t538 => ((chain_Link.f a0 a2_0 a2_1 a2_2 a2_3 (Go.bits .xor .u64 IntKind.u64.max a2_4)).bind fun t539 => (some (t538 == t539)))) else (some false)))) else (some false)))) else (some false)))
def chargeparklaw40_ChainLinks.T5 : Bool × List (List Nat × List Nat) := (true, [([], []), ([0], [0]), ([1], [1]), ([1], [1]), ([2, 3, 1, 1], [1, 2, 3]), ([1], [1]), ([1], [1]), ([5, 6, 4, 1], [1, 5, 6]), ([4, 7, 1], [1, 4, 7]), ([1], [1]), ([1], [1]), ([9, 10, 1], [1, 9, 10]), ([8, 11, 1], [1, 8, 11]), ([1, 12], [1, 12]), ([13, 7], [13]), ([14], [14]), ([14], [14]), ([15, 16, 14, 14], [14, 15, 16]), ([14], [14]), ([14], [14]), ([18, 19, 17, 14], [14, 18, 19]), ([17, 20, 14], [14, 17, 20]), ([14], [14]), ([22, 14], [14, 22]), ([21, 23, 14], [14, 21, 23]), ([14, 24], [14, 24]), ([25, 20], [25]), ([26], [26]), ([26], [26]), ([27, 28, 26, 26], [26, 27, 28]), ([26], [26]), ([26], [26]), ([30, 31, 29, 26], [26, 30, 31]), ([29, 32, 26], [26, 29, 32]), ([26, 33], [26, 33]), ([34, 32, 0, 1, 2, 3, 4, 5, 6, 7, 8, 9, 10, 11, 12, 13, 14, 15, 16, 17, 18, 19, 20, 21, 22, 23, 24, 25, 26, 27, 28, 29, 30, 31, 32, 33, 34], [34])])
def chargeparklaw40_ChainLinks.B5 : List Nat := [0, 1, 3, 3, 15, 3, 3, 127, 255, 3, 3, 1539, 4095, 8191, 16383, 32767, 32767, 131071, 32767, 32767, 1048575, 2097151, 32767, 4227071, 16777215, 33554431, 67108863, 134217727, 134217727, 536870911, 134217727, 134217727, 4294967295, 8589934591, 17179869183, 34359738367]
theorem chargeparklaw40_ChainLinks.tab5 : rtab .any (opsOf Try.f15 5) = chargeparklaw40_ChainLinks.T5 := by kernel_rfl
theorem chargeparklaw40_ChainLinks.bits5 : waitsOk chargeparklaw40_ChainLinks.T5.2 chargeparklaw40_ChainLinks.B5 = true := by kernel_rfl
set_option maxHeartbeats 8000000 in
set_option maxRecDepth 100000 in
theorem chargeparklaw40_ChainLinks.calls (a0 : Int) (a1 : Int) (a2_0 : Int) (a2_1 : Int) (a2_2 : Int) (a2_3 : Int) (a2_4 : Int) (a3 : Int) (a4 : Int) (a5 : Int) (r : Bool) (w : World) (hT_ : Aside0 (r = true)) (h : chargeparklaw40_ChainLinks.f a0 a1 a2_0 a2_1 a2_2 a2_3 a2_4 a3 a4 a5 = some r) :
  Calls Try.prog 15 #[.int .u64 a0, .int .u64 a1, .agg #[.int .i64 a2_0, .int .i64 a2_1, .int .i64 a2_2, .int .i64 a2_3, .int .u64 a2_4], .int .u8 a3, .int .u8 a4, .int .u8 a5] w fun e w' => e = .returned (.bool r) ∧ Below w.heap.size w w' := by
 have hu44 := Try.underlying44
 have HB := Aside0.mk (Below.refl w.heap.size w)
 have H : ((chargeparklaw40_head.f).bind fun t526 => ((chargeparklaw40_changed.f a2_0 a2_1 a2_2 a2_3 a2_4 (Int.tmod a3 4) a4 a5).bind fun bt527 => (if t526 = true then ((chain_Link.f a0 a2_0 a2_1 a2_2 a2_3 a2_4).bind fun t534 => ((chain_Link.f a1 a2_0 a2_1 a2_2 a2_3 a2_4).bind fun t535 => (if ((t534 == t535) == (a0 == a1)) = true then ((chain_Link.f a0 a2_0 a2_1 a2_2 a2_3 a2_4).bind fun t536 => ((chain_Link.f a0 bt527.1 bt527.2.1 bt527.2.2.1 bt527.2.2.2.1 bt527.2.2.2.2).bind fun t537 => (if ((t536 == t537) == (a5 == 0)) = true then ((chain_Link.f a0 a2_0 a2_1 a2_2 a2_3 a2_4).bind fun t538 => ((chain_Link.f a0 a2_0 a2_1 a2_2 a2_3 (Go.bits .xor .u64 IntKind.u64.max a2_4)).bind fun t539 => (some (t538 == t539)))) else (some false)))) else (some false)))) else (some false)))) = some r := h
 clear h
 replace H := Option.bind_eq_some_iff.mp H
 obtain ⟨t526, A70, H⟩ := H
 replace H : ((chargeparklaw40_changed.f a2_0 a2_1 a2_2 a2_3 a2_4 (Int.tmod a3 4) a4 a5).bind fun bt527 => (if t526 = true then ((chain_Link.f a0 a2_0 a2_1 a2_2 a2_3 a2_4).bind fun t534 => ((chain_Link.f a1 a2_0 a2_1 a2_2 a2_3 a2_4).bind fun t535 => (if ((t534 == t535) == (a0 == a1)) = true then ((chain_Link.f a0 a2_0 a2_1 a2_2 a2_3 a2_4).bind fun t536 => ((chain_Link.f a0 bt527.1 bt527.2.1 bt527.2.2.1 bt527.2.2.2.1 bt527.2.2.2.2).bind fun t537 => (if ((t536 == t537) == (a5 == 0)) = true then ((chain_Link.f a0 a2_0 a2_1 a2_2 a2_3 a2_4).bind fun t538 => ((chain_Link.f a0 a2_0 a2_1 a2_2 a2_3 (Go.bits .xor .u64 IntKind.u64.max a2_4)).bind fun t539 => (some (t538 == t539)))) else (some false)))) else (some false)))) else (some false))) = some r := H
 have A7 := Aside0.mk A70
 clear A70
 replace H := Option.bind_eq_some_iff.mp H
 obtain ⟨⟨t527, t528, t529, t530, t531⟩, A80, H⟩ := H
 replace H : (if t526 = true then ((chain_Link.f a0 a2_0 a2_1 a2_2 a2_3 a2_4).bind fun t534 => ((chain_Link.f a1 a2_0 a2_1 a2_2 a2_3 a2_4).bind fun t535 => (if ((t534 == t535) == (a0 == a1)) = true then ((chain_Link.f a0 a2_0 a2_1 a2_2 a2_3 a2_4).bind fun t536 => ((chain_Link.f a0 t527 t528 t529 t530 t531).bind fun t537 => (if ((t536 == t537) == (a5 == 0)) = true then ((chain_Link.f a0 a2_0 a2_1 a2_2 a2_3 a2_4).bind fun t538 => ((chain_Link.f a0 a2_0 a2_1 a2_2 a2_3 (Go.bits .xor .u64 IntKind.u64.max a2_4)).bind fun t539 => (some (t538 == t539)))) else (some false)))) else (some false)))) else (some false)) = some r := H
 have A8 := Aside0.mk A80
 clear A80
 by_cases c9 : t526 = true
 ·subst c9
  have H1 : ((chain_Link.f a0 a2_0 a2_1 a2_2 a2_3 a2_4).bind fun t534 => ((chain_Link.f a1 a2_0 a2_1 a2_2 a2_3 a2_4).bind fun t535 => (if ((t534 == t535) == (a0 == a1)) = true then ((chain_Link.f a0 a2_0 a2_1 a2_2 a2_3 a2_4).bind fun t536 => ((chain_Link.f a0 t527 t528 t529 t530 t531).bind fun t537 => (if ((t536 == t537) == (a5 == 0)) = true then ((chain_Link.f a0 a2_0 a2_1 a2_2 a2_3 a2_4).bind fun t538 => ((chain_Link.f a0 a2_0 a2_1 a2_2 a2_3 (Go.bits .xor .u64 IntKind.u64.max a2_4)).bind fun t539 => (some (t538 == t539)))) else (some false)))) else (some false)))) = some r := by rw [if_pos rfl] at H; exact H
  clear H
  have H := H1
  clear H1
  replace H := Option.bind_eq_some_iff.mp H
  obtain ⟨t534, A100, H⟩ := H
  replace H : ((chain_Link.f a1 a2_0 a2_1 a2_2 a2_3 a2_4).bind fun t535 => (if ((t534 == t535) == (a0 == a1)) = true then ((chain_Link.f a0 a2_0 a2_1 a2_2 a2_3 a2_4).bind fun t536 => ((chain_Link.f a0 t527 t528 t529 t530 t531).bind fun t537 => (if ((t536 == t537) == (a5 == 0)) = true then ((chain_Link.f a0 a2_0 a2_1 a2_2 a2_3 a2_4).bind fun t538 => ((chain_Link.f a0 a2_0 a2_1 a2_2 a2_3 (Go.bits .xor .u64 IntKind.u64.max a2_4)).bind fun t539 => (some (t538 == t539)))) else (some false)))) else (some false))) = some r := H
  have A10 := Aside0.mk A100
  clear A100
  replace H := Option.bind_eq_some_iff.mp H
  obtain ⟨t535, A110, H⟩ := H
  replace H : (if ((t534 == t535) == (a0 == a1)) = true then ((chain_Link.f a0 a2_0 a2_1 a2_2 a2_3 a2_4).bind fun t536 => ((chain_Link.f a0 t527 t528 t529 t530 t531).bind fun t537 => (if ((t536 == t537) == (a5 == 0)) = true then ((chain_Link.f a0 a2_0 a2_1 a2_2 a2_3 a2_4).bind fun t538 => ((chain_Link.f a0 a2_0 a2_1 a2_2 a2_3 (Go.bits .xor .u64 IntKind.u64.max a2_4)).bind fun t539 => (some (t538 == t539)))) else (some false)))) else (some false)) = some r := H
  have A11 := Aside0.mk A110
  clear A110
  by_cases c12 : ((t534 == t535) == (a0 == a1)) = true
  ·rw [if_pos c12] at H
   have c12b0 : ((t534 == t535) == (a0 == a1)) = true := c12
   (try (have c12b1 : decide ((t534 == t535) = (a0 == a1)) = true := by simpa using c12))
   (try (have c12b2 : ((t534 == t535) == (a0 == a1)) = true := by simpa using c12))
   clear c12
   replace H := Option.bind_eq_some_iff.mp H
   obtain ⟨t536, A130, H⟩ := H
   replace H : ((chain_Link.f a0 t527 t528 t529 t530 t531).bind fun t537 => (if ((t536 == t537) == (a5 == 0)) = true then ((chain_Link.f a0 a2_0 a2_1 a2_2 a2_3 a2_4).bind fun t538 => ((chain_Link.f a0 a2_0 a2_1 a2_2 a2_3 (Go.bits .xor .u64 IntKind.u64.max a2_4)).bind fun t539 => (some (t538 == t539)))) else (some false))) = some r := H
   have A13 := Aside0.mk A130
   clear A130
   replace H := Option.bind_eq_some_iff.mp H
   obtain ⟨t537, A140, H⟩ := H
   replace H : (if ((t536 == t537) == (a5 == 0)) = true then ((chain_Link.f a0 a2_0 a2_1 a2_2 a2_3 a2_4).bind fun t538 => ((chain_Link.f a0 a2_0 a2_1 a2_2 a2_3 (Go.bits .xor .u64 IntKind.u64.max a2_4)).bind fun t539 => (some (t538 == t539)))) else (some false)) = some r := H
   have A14 := Aside0.mk A140
   clear A140
   by_cases c15 : ((t536 == t537) == (a5 == 0)) = true
   ·rw [if_pos c15] at H
    have c15b0 : ((t536 == t537) == (a5 == 0)) = true := c15
    (try (have c15b1 : decide ((t536 == t537) = (a5 == 0)) = true := by simpa using c15))
    (try (have c15b2 : ((t536 == t537) == (a5 == 0)) = true := by simpa using c15))
    clear c15
    replace H := Option.bind_eq_some_iff.mp H
    obtain ⟨t538, A160, H⟩ := H
    replace H : ((chain_Link.f a0 a2_0 a2_1 a2_2 a2_3 (Go.bits .xor .u64 IntKind.u64.max a2_4)).bind fun t539 => (some (t538 == t539))) = some r := H
    have A16 := Aside0.mk A160
    clear A160
    replace H := Option.bind_eq_some_iff.mp H
    obtain ⟨t539, A170, H⟩ := H
    replace H : (some (t538 == t539)) = some r := H
    have A17 := Aside0.mk A170
    clear A170
    obtain rfl := Option.some.inj H
    go_enter Try.func15, Try.ntmps15
    try go_wp2_with (first | ((with_reducible refine gate_dst (N := 8) rfl ?_); refine box_event ?hg (N := 8) ?hd (cs := #[.int .i64 a2_0, .int .i64 a2_1, .int .i64 a2_2, .int .i64 a2_3, .int .u64 a2_4]) (t := 44) ?hr ?_; (case hd => rfl); (case hg => rfl); (case hr => first | (go_simp; done) | (go_simp; rfl)); intro gb525 hg w18 hbox hb; have n0_ := Aside0.mk (below_step (by repeat (first | (with_reducible first | exact HB.out | apply below_alloc | apply pw_below_drewN | apply below_drew1) | exact HB.out)) hb); have n1_ := Aside0.mk (hbox); have n2_ := Aside0.mk ((by rw [hg]; exact (below_size (by repeat (first | (with_reducible first | exact HB.out | apply below_alloc | apply pw_below_drewN | apply below_drew1) | exact HB.out))) : w.heap.size ≤ gb525)); have n3_ := Aside0.mk ((by rw [hg]; exact (below_size (by repeat (first | (with_reducible first | exact HB.out | apply below_alloc | apply pw_below_drewN | apply below_drew1) | exact HB.out))) : w.heap.size ≤ gb525)); clear HB; have HB := n0_; have BK525 := n1_; have GW525 := n2_; have GE525 := n3_; clear n0_ n1_ n2_ n3_; clear hb hbox hg) | ((with_reducible refine gate_callee (f := 28) rfl ?_); refine goesL_ (some 16) rfl rfl Try.func28 (by kernel_rfl) rfl #[] rfl (by (try simp only [List.map_toArray, List.map_cons, List.map_nil]); first | done | rfl | (simp only [List.length_drop, List.length_take]; rfl)) ?_; (with_reducible refine (chargeparklaw40_head.calls  true _ A7.out).mono ?_); rintro e w19 ⟨rfl, hb⟩; refine ⟨_, rfl, ?_⟩; have n0_ := Aside0.mk (blk_below (g := gb525) (o := .cells #[.int .i64 a2_0, .int .i64 a2_1, .int .i64 a2_2, .int .i64 a2_3, .int .u64 a2_4] 44 (0, 0)) (by (with_reducible repeat (first | refine blk_drewN ?_ _ | refine blk_drew ?_ | refine blk_alloc ?_ _)); exact BK525.out) hb); have n1_ := Aside0.mk (below_step (by repeat (first | (with_reducible first | exact HB.out | apply below_alloc | apply pw_below_drewN | apply below_drew1 | refine below_set ?_ GE525.out) | exact HB.out)) hb); clear BK525; clear HB; have BK525 := n0_; have HB := n1_; clear n0_ n1_; (try clear hb); (try clear hb2); (try clear hk); (try clear hi); have hcz20_0 : w19.cell? ⟨gb525, 0, none⟩ = some (.int .i64 a2_0) := (blk_cell BK525.out 0).trans rfl; have hcz20_1 : w19.cell? ⟨gb525, 1, none⟩ = some (.int .i64 a2_1) := (blk_cell BK525.out 1).trans rfl; have hcz20_2 : w19.cell? ⟨gb525, 2, none⟩ = some (.int .i64 a2_2) := (blk_cell BK525.out 2).trans rfl; have hcz20_3 : w19.cell? ⟨gb525, 3, none⟩ = some (.int .i64 a2_3) := (blk_cell BK525.out 3).trans rfl; have hcz20_4 : w19.cell? ⟨gb525, 4, none⟩ = some (.int .u64 a2_4) := (blk_cell BK525.out 4).trans rfl; have hfz20_0 := blk_frozen BK525.out 0; have hfz20_1 := blk_frozen BK525.out 1; have hfz20_2 := blk_frozen BK525.out 2; have hfz20_3 := blk_frozen BK525.out 3; have hfz20_4 := blk_frozen BK525.out 4) | ((with_reducible refine gate_callee (f := 37) rfl ?_); refine goesL_ (some 22) rfl rfl Try.func37 (by kernel_rfl) rfl #[.agg #[.int .i64 a2_0, .int .i64 a2_1, .int .i64 a2_2, .int .i64 a2_3, .int .u64 a2_4], .int .u8 (Int.tmod a3 4), .int .u8 a4, .int .u8 a5] rfl (by (try simp only [List.map_toArray, List.map_cons, List.map_nil]); first | done | rfl | (simp only [List.length_drop, List.length_take]; rfl)) ?_; (with_reducible refine (chargeparklaw40_changed.calls a2_0 a2_1 a2_2 a2_3 a2_4 (Int.tmod a3 4) a4 a5 t527 t528 t529 t530 t531 _ A8.out).mono ?_); rintro e w21 ⟨rfl, hb⟩; refine ⟨_, rfl, ?_⟩; have n0_ := Aside0.mk (blk_below (g := gb525) (o := .cells #[.int .i64 a2_0, .int .i64 a2_1, .int .i64 a2_2, .int .i64 a2_3, .int .u64 a2_4] 44 (0, 0)) (by (with_reducible repeat (first | refine blk_drewN ?_ _ | refine blk_drew ?_ | refine blk_alloc ?_ _)); exact BK525.out) hb); have n1_ := Aside0.mk (below_step (by repeat (first | (with_reducible first | exact HB.out | apply below_alloc | apply pw_below_drewN | apply below_drew1 | refine below_set ?_ GE525.out) | exact HB.out)) hb); clear BK525; clear HB; have BK525 := n0_; have HB := n1_; clear n0_ n1_; (try clear hb); (try clear hb2); (try clear hk); (try clear hi)) | ((with_reducible refine gate_dst (N := 14) rfl ?_); refine box_event ?hg (N := 14) ?hd (cs := #[.int .i64 0, .int .i64 0, .int .i64 0, .int .i64 0, .int .u64 0]) (t := 44) ?hr ?_; (case hd => rfl); (case hg => rfl); (case hr => first | (go_simp; done) | (go_simp; rfl)); intro gb532 hg w22 hbox hb; have n0_ := Aside0.mk (blk_below (g := gb525) (o := .cells #[.int .i64 a2_0, .int .i64 a2_1, .int .i64 a2_2, .int .i64 a2_3, .int .u64 a2_4] 44 (0, 0)) (by (with_reducible repeat (first | refine blk_drewN ?_ _ | refine blk_drew ?_ | refine blk_alloc ?_ _)); exact BK525.out) hb); have n1_ := Aside0.mk (below_step (by repeat (first | (with_reducible first | exact HB.out | apply below_alloc | apply pw_below_drewN | apply below_drew1 | refine below_set ?_ GE525.out) | exact HB.out)) hb); have n2_ := Aside0.mk (hbox); have n3_ := Aside0.mk ((by rw [hg]; exact (below_size (by repeat (first | (with_reducible first | exact HB.out | apply below_alloc | apply pw_below_drewN | apply below_drew1 | refine below_set ?_ GE525.out) | exact HB.out))) : w.heap.size ≤ gb532)); have n4_ := Aside0.mk ((by rw [hg]; exact (below_size (by repeat (first | (with_reducible first | exact HB.out | apply below_alloc | apply pw_below_drewN | apply below_drew1 | refine below_set ?_ GE525.out) | exact HB.out))) : w.heap.size ≤ gb532)); have n5_ := Aside0.mk ((by rw [hg]; exact Nat.ne_of_lt (blk_lt (g := gb525) (o := .cells #[.int .i64 a2_0, .int .i64 a2_1, .int .i64 a2_2, .int .i64 a2_3, .int .u64 a2_4] 44 (0, 0)) (by (with_reducible repeat (first | refine blk_drewN ?_ _ | refine blk_drew ?_ | refine blk_alloc ?_ _)); exact BK525.out)) : gb525 ≠ gb532)); have n6_ := Aside0.mk ((by rw [hg]; exact Nat.ne_of_gt (blk_lt (g := gb525) (o := .cells #[.int .i64 a2_0, .int .i64 a2_1, .int .i64 a2_2, .int .i64 a2_3, .int .u64 a2_4] 44 (0, 0)) (by (with_reducible repeat (first | refine blk_drewN ?_ _ | refine blk_drew ?_ | refine blk_alloc ?_ _)); exact BK525.out)) : gb532 ≠ gb525)); clear BK525; clear HB; have BK525 := n0_; have HB := n1_; have BK532 := n2_; have GW532 := n3_; have GE532 := n4_; have NB525_532 := n5_; have NB532_525 := n6_; clear n0_ n1_ n2_ n3_ n4_ n5_ n6_; clear hb hbox hg; have hnb23 := NB532_525.out; have hnc23 := NB525_532.out; have hcz24_0 : w22.cell? ⟨gb532, 0, none⟩ = some (.int .i64 0) := (blk_cell BK532.out 0).trans rfl; have hcz24_1 : w22.cell? ⟨gb532, 1, none⟩ = some (.int .i64 0) := (blk_cell BK532.out 1).trans rfl; have hcz24_2 : w22.cell? ⟨gb532, 2, none⟩ = some (.int .i64 0) := (blk_cell BK532.out 2).trans rfl; have hcz24_3 : w22.cell? ⟨gb532, 3, none⟩ = some (.int .i64 0) := (blk_cell BK532.out 3).trans rfl; have hcz24_4 : w22.cell? ⟨gb532, 4, none⟩ = some (.int .u64 0) := (blk_cell BK532.out 4).trans rfl; have hfz24_0 := blk_frozen BK532.out 0; have hfz24_1 := blk_frozen BK532.out 1; have hfz24_2 := blk_frozen BK532.out 2; have hfz24_3 := blk_frozen BK532.out 3; have hfz24_4 := blk_frozen BK532.out 4; have hcz25_0 : w22.cell? ⟨gb525, 0, none⟩ = some (.int .i64 a2_0) := (blk_cell BK525.out 0).trans rfl; have hcz25_1 : w22.cell? ⟨gb525, 1, none⟩ = some (.int .i64 a2_1) := (blk_cell BK525.out 1).trans rfl; have hcz25_2 : w22.cell? ⟨gb525, 2, none⟩ = some (.int .i64 a2_2) := (blk_cell BK525.out 2).trans rfl; have hcz25_3 : w22.cell? ⟨gb525, 3, none⟩ = some (.int .i64 a2_3) := (blk_cell BK525.out 3).trans rfl; have hcz25_4 : w22.cell? ⟨gb525, 4, none⟩ = some (.int .u64 a2_4) := (blk_cell BK525.out 4).trans rfl; have hfz25_0 := blk_frozen BK525.out 0; have hfz25_1 := blk_frozen BK525.out 1; have hfz25_2 := blk_frozen BK525.out 2; have hfz25_3 := blk_frozen BK525.out 3; have hfz25_4 := blk_frozen BK525.out 4) | ((with_reducible refine gate_dst (N := 15) rfl ?_); refine box_event ?hg (N := 15) ?hd (cs := #[.int .i64 0, .int .i64 0, .int .i64 0, .int .i64 0, .int .u64 0]) (t := 44) ?hr ?_; (case hd => rfl); (case hg => rfl); (case hr => first | (go_simp; done) | (go_simp; rfl)); intro gb533 hg w26 hbox hb; have n0_ := Aside0.mk (blk_below (g := gb525) (o := .cells #[.int .i64 a2_0, .int .i64 a2_1, .int .i64 a2_2, .int .i64 a2_3, .int .u64 a2_4] 44 (0, 0)) (by (with_reducible repeat (first | refine blk_drewN ?_ _ | refine blk_drew ?_ | refine blk_alloc ?_ _)); refine blk_far ?_ NB525_532.out _; (with_reducible repeat (first | refine blk_drewN ?_ _ | refine blk_drew ?_ | refine blk_alloc ?_ _)); refine blk_far ?_ NB525_532.out _; (with_reducible repeat (first | refine blk_drewN ?_ _ | refine blk_drew ?_ | refine blk_alloc ?_ _)); refine blk_far ?_ NB525_532.out _; (with_reducible repeat (first | refine blk_drewN ?_ _ | refine blk_drew ?_ | refine blk_alloc ?_ _)); refine blk_far ?_ NB525_532.out _; (with_reducible repeat (first | refine blk_drewN ?_ _ | refine blk_drew ?_ | refine blk_alloc ?_ _)); refine blk_far ?_ NB525_532.out _; (with_reducible repeat (first | refine blk_drewN ?_ _ | refine blk_drew ?_ | refine blk_alloc ?_ _)); exact BK525.out) hb); have n1_ := Aside0.mk (blk_below (g := gb532) (o := .cells #[.int .i64 t527, .int .i64 t528, .int .i64 t529, .int .i64 t530, .int .u64 t531] 44 (0, 0)) (by (with_reducible repeat (first | refine blk_drewN ?_ _ | refine blk_drew ?_ | refine blk_alloc ?_ _)); refine blk_put (cs := #[.int .i64 t527, .int .i64 t528, .int .i64 t529, .int .i64 t530, .int .u64 0]) ?_ 4 _ rfl; (with_reducible repeat (first | refine blk_drewN ?_ _ | refine blk_drew ?_ | refine blk_alloc ?_ _)); refine blk_put (cs := #[.int .i64 t527, .int .i64 t528, .int .i64 t529, .int .i64 0, .int .u64 0]) ?_ 3 _ rfl; (with_reducible repeat (first | refine blk_drewN ?_ _ | refine blk_drew ?_ | refine blk_alloc ?_ _)); refine blk_put (cs := #[.int .i64 t527, .int .i64 t528, .int .i64 0, .int .i64 0, .int .u64 0]) ?_ 2 _ rfl; (with_reducible repeat (first | refine blk_drewN ?_ _ | refine blk_drew ?_ | refine blk_alloc ?_ _)); refine blk_put (cs := #[.int .i64 t527, .int .i64 0, .int .i64 0, .int .i64 0, .int .u64 0]) ?_ 1 _ rfl; (with_reducible repeat (first | refine blk_drewN ?_ _ | refine blk_drew ?_ | refine blk_alloc ?_ _)); refine blk_put (cs := #[.int .i64 0, .int .i64 0, .int .i64 0, .int .i64 0, .int .u64 0]) ?_ 0 _ rfl; (with_reducible repeat (first | refine blk_drewN ?_ _ | refine blk_drew ?_ | refine blk_alloc ?_ _)); exact BK532.out) hb); have n2_ := Aside0.mk (below_step (by repeat (first | (with_reducible first | exact HB.out | apply below_alloc | apply pw_below_drewN | apply below_drew1 | refine below_set ?_ GE525.out | refine below_set ?_ GE532.out) | exact HB.out)) hb); have n3_ := Aside0.mk (hbox); have n4_ := Aside0.mk ((by rw [hg]; exact (below_size (by repeat (first | (with_reducible first | exact HB.out | apply below_alloc | apply pw_below_drewN | apply below_drew1 | refine below_set ?_ GE525.out | refine below_set ?_ GE532.out) | exact HB.out))) : w.heap.size ≤ gb533)); have n5_ := Aside0.mk ((by rw [hg]; exact (below_size (by repeat (first | (with_reducible first | exact HB.out | apply below_alloc | apply pw_below_drewN | apply below_drew1 | refine below_set ?_ GE525.out | refine below_set ?_ GE532.out) | exact HB.out))) : w.heap.size ≤ gb533)); have n6_ := Aside0.mk ((by rw [hg]; exact Nat.ne_of_lt (blk_lt (g := gb525) (o := .cells #[.int .i64 a2_0, .int .i64 a2_1, .int .i64 a2_2, .int .i64 a2_3, .int .u64 a2_4] 44 (0, 0)) (by (with_reducible repeat (first | refine blk_drewN ?_ _ | refine blk_drew ?_ | refine blk_alloc ?_ _)); refine blk_far ?_ NB525_532.out _; (with_reducible repeat (first | refine blk_drewN ?_ _ | refine blk_drew ?_ | refine blk_alloc ?_ _)); refine blk_far ?_ NB525_532.out _; (with_reducible repeat (first | refine blk_drewN ?_ _ | refine blk_drew ?_ | refine blk_alloc ?_ _)); refine blk_far ?_ NB525_532.out _; (with_reducible repeat (first | refine blk_drewN ?_ _ | refine blk_drew ?_ | refine blk_alloc ?_ _)); refine blk_far ?_ NB525_532.out _; (with_reducible repeat (first | refine blk_drewN ?_ _ | refine blk_drew ?_ | refine blk_alloc ?_ _)); refine blk_far ?_ NB525_532.out _; (with_reducible repeat (first | refine blk_drewN ?_ _ | refine blk_drew ?_ | refine blk_alloc ?_ _)); exact BK525.out)) : gb525 ≠ gb533)); have n7_ := Aside0.mk ((by rw [hg]; exact Nat.ne_of_gt (blk_lt (g := gb525) (o := .cells #[.int .i64 a2_0, .int .i64 a2_1, .int .i64 a2_2, .int .i64 a2_3, .int .u64 a2_4] 44 (0, 0)) (by (with_reducible repeat (first | refine blk_drewN ?_ _ | refine blk_drew ?_ | refine blk_alloc ?_ _)); refine blk_far ?_ NB525_532.out _; (with_reducible repeat (first | refine blk_drewN ?_ _ | refine blk_drew ?_ | refine blk_alloc ?_ _)); refine blk_far ?_ NB525_532.out _; (with_reducible repeat (first | refine blk_drewN ?_ _ | refine blk_drew ?_ | refine blk_alloc ?_ _)); refine blk_far ?_ NB525_532.out _; (with_reducible repeat (first | refine blk_drewN ?_ _ | refine blk_drew ?_ | refine blk_alloc ?_ _)); refine blk_far ?_ NB525_532.out _; (with_reducible repeat (first | refine blk_drewN ?_ _ | refine blk_drew ?_ | refine blk_alloc ?_ _)); refine blk_far ?_ NB525_532.out _; (with_reducible repeat (first | refine blk_drewN ?_ _ | refine blk_drew ?_ | refine blk_alloc ?_ _)); exact BK525.out)) : gb533 ≠ gb525)); have n8_ := Aside0.mk ((by rw [hg]; exact Nat.ne_of_lt (blk_lt (g := gb532) (o := .cells #[.int .i64 t527, .int .i64 t528, .int .i64 t529, .int .i64 t530, .int .u64 t531] 44 (0, 0)) (by (with_reducible repeat (first | refine blk_drewN ?_ _ | refine blk_drew ?_ | refine blk_alloc ?_ _)); refine blk_put (cs := #[.int .i64 t527, .int .i64 t528, .int .i64 t529, .int .i64 t530, .int .u64 0]) ?_ 4 _ rfl; (with_reducible repeat (first | refine blk_drewN ?_ _ | refine blk_drew ?_ | refine blk_alloc ?_ _)); refine blk_put (cs := #[.int .i64 t527, .int .i64 t528, .int .i64 t529, .int .i64 0, .int .u64 0]) ?_ 3 _ rfl; (with_reducible repeat (first | refine blk_drewN ?_ _ | refine blk_drew ?_ | refine blk_alloc ?_ _)); refine blk_put (cs := #[.int .i64 t527, .int .i64 t528, .int .i64 0, .int .i64 0, .int .u64 0]) ?_ 2 _ rfl; (with_reducible repeat (first | refine blk_drewN ?_ _ | refine blk_drew ?_ | refine blk_alloc ?_ _)); refine blk_put (cs := #[.int .i64 t527, .int .i64 0, .int .i64 0, .int .i64 0, .int .u64 0]) ?_ 1 _ rfl; (with_reducible repeat (first | refine blk_drewN ?_ _ | refine blk_drew ?_ | refine blk_alloc ?_ _)); refine blk_put (cs := #[.int .i64 0, .int .i64 0, .int .i64 0, .int .i64 0, .int .u64 0]) ?_ 0 _ rfl; (with_reducible repeat (first | refine blk_drewN ?_ _ | refine blk_drew ?_ | refine blk_alloc ?_ _)); exact BK532.out)) : gb532 ≠ gb533)); have n9_ := Aside0.mk ((by rw [hg]; exact Nat.ne_of_gt (blk_lt (g := gb532) (o := .cells #[.int .i64 t527, .int .i64 t528, .int .i64 t529, .int .i64 t530, .int .u64 t531] 44 (0, 0)) (by (with_reducible repeat (first | refine blk_drewN ?_ _ | refine blk_drew ?_ | refine blk_alloc ?_ _)); refine blk_put (cs := #[.int .i64 t527, .int .i64 t528, .int .i64 t529, .int .i64 t530, .int .u64 0]) ?_ 4 _ rfl; (with_reducible repeat (first | refine blk_drewN ?_ _ | refine blk_drew ?_ | refine blk_alloc ?_ _)); refine blk_put (cs := #[.int .i64 t527, .int .i64 t528, .int .i64 t529, .int .i64 0, .int .u64 0]) ?_ 3 _ rfl; (with_reducible repeat (first | refine blk_drewN ?_ _ | refine blk_drew ?_ | refine blk_alloc ?_ _)); refine blk_put (cs := #[.int .i64 t527, .int .i64 t528, .int .i64 0, .int .i64 0, .int .u64 0]) ?_ 2 _ rfl; (with_reducible repeat (first | refine blk_drewN ?_ _ | refine blk_drew ?_ | refine blk_alloc ?_ _)); refine blk_put (cs := #[.int .i64 t527, .int .i64 0, .int .i64 0, .int .i64 0, .int .u64 0]) ?_ 1 _ rfl; (with_reducible repeat (first | refine blk_drewN ?_ _ | refine blk_drew ?_ | refine blk_alloc ?_ _)); refine blk_put (cs := #[.int .i64 0, .int .i64 0, .int .i64 0, .int .i64 0, .int .u64 0]) ?_ 0 _ rfl; (with_reducible repeat (first | refine blk_drewN ?_ _ | refine blk_drew ?_ | refine blk_alloc ?_ _)); exact BK532.out)) : gb533 ≠ gb532)); clear BK525; clear BK532; clear HB; have BK525 := n0_; have BK532 := n1_; have HB := n2_; have BK533 := n3_; have GW533 := n4_; have GE533 := n5_; have NB525_533 := n6_; have NB533_525 := n7_; have NB532_533 := n8_; have NB533_532 := n9_; clear n0_ n1_ n2_ n3_ n4_ n5_ n6_ n7_ n8_ n9_; clear hb hbox hg; have hnb27 := NB533_525.out; have hnc27 := NB525_533.out; have hnb28 := NB533_532.out; have hnc28 := NB532_533.out; have hcz29_0 : w26.cell? ⟨gb533, 0, none⟩ = some (.int .i64 0) := (blk_cell BK533.out 0).trans rfl; have hcz29_1 : w26.cell? ⟨gb533, 1, none⟩ = some (.int .i64 0) := (blk_cell BK533.out 1).trans rfl; have hcz29_2 : w26.cell? ⟨gb533, 2, none⟩ = some (.int .i64 0) := (blk_cell BK533.out 2).trans rfl; have hcz29_3 : w26.cell? ⟨gb533, 3, none⟩ = some (.int .i64 0) := (blk_cell BK533.out 3).trans rfl; have hcz29_4 : w26.cell? ⟨gb533, 4, none⟩ = some (.int .u64 0) := (blk_cell BK533.out 4).trans rfl; have hfz29_0 := blk_frozen BK533.out 0; have hfz29_1 := blk_frozen BK533.out 1; have hfz29_2 := blk_frozen BK533.out 2; have hfz29_3 := blk_frozen BK533.out 3; have hfz29_4 := blk_frozen BK533.out 4; have hcz30_0 : w26.cell? ⟨gb525, 0, none⟩ = some (.int .i64 a2_0) := (blk_cell BK525.out 0).trans rfl; have hcz30_1 : w26.cell? ⟨gb525, 1, none⟩ = some (.int .i64 a2_1) := (blk_cell BK525.out 1).trans rfl; have hcz30_2 : w26.cell? ⟨gb525, 2, none⟩ = some (.int .i64 a2_2) := (blk_cell BK525.out 2).trans rfl; have hcz30_3 : w26.cell? ⟨gb525, 3, none⟩ = some (.int .i64 a2_3) := (blk_cell BK525.out 3).trans rfl; have hcz30_4 : w26.cell? ⟨gb525, 4, none⟩ = some (.int .u64 a2_4) := (blk_cell BK525.out 4).trans rfl; have hfz30_0 := blk_frozen BK525.out 0; have hfz30_1 := blk_frozen BK525.out 1; have hfz30_2 := blk_frozen BK525.out 2; have hfz30_3 := blk_frozen BK525.out 3; have hfz30_4 := blk_frozen BK525.out 4))
    have n0_ : Aside0 (((((((w26.setCell ⟨gb533, 0, none⟩ (.int .i64 a2_0)).setCell ⟨gb533, 1, none⟩ (.int .i64 a2_1)).setCell ⟨gb533, 2, none⟩ (.int .i64 a2_2)).setCell ⟨gb533, 3, none⟩ (.int .i64 a2_3)).setCell ⟨gb533, 4, none⟩ (.int .u64 a2_4)).setCell ⟨gb533, 4, none⟩ (.int .u64 (Go.bits .xor .u64 IntKind.u64.max a2_4))).heap[gb525]? = some (.cells #[.int .i64 a2_0, .int .i64 a2_1, .int .i64 a2_2, .int .i64 a2_3, .int .u64 a2_4] 44 (0, 0))) := ⟨by (with_reducible repeat (first | refine blk_drewN ?_ _ | refine blk_drew ?_ | refine blk_alloc ?_ _)); refine blk_far ?_ NB525_533.out _; (with_reducible repeat (first | refine blk_drewN ?_ _ | refine blk_drew ?_ | refine blk_alloc ?_ _)); refine blk_far ?_ NB525_533.out _; (with_reducible repeat (first | refine blk_drewN ?_ _ | refine blk_drew ?_ | refine blk_alloc ?_ _)); refine blk_far ?_ NB525_533.out _; (with_reducible repeat (first | refine blk_drewN ?_ _ | refine blk_drew ?_ | refine blk_alloc ?_ _)); refine blk_far ?_ NB525_533.out _; (with_reducible repeat (first | refine blk_drewN ?_ _ | refine blk_drew ?_ | refine blk_alloc ?_ _)); refine blk_far ?_ NB525_533.out _; (with_reducible repeat (first | refine blk_drewN ?_ _ | refine blk_drew ?_ | refine blk_alloc ?_ _)); refine blk_far ?_ NB525_533.out _; (with_reducible repeat (first | refine blk_drewN ?_ _ | refine blk_drew ?_ | refine blk_alloc ?_ _)); exact BK525.out⟩
    have n1_ : Aside0 (((((((w26.setCell ⟨gb533, 0, none⟩ (.int .i64 a2_0)).setCell ⟨gb533, 1, none⟩ (.int .i64 a2_1)).setCell ⟨gb533, 2, none⟩ (.int .i64 a2_2)).setCell ⟨gb533, 3, none⟩ (.int .i64 a2_3)).setCell ⟨gb533, 4, none⟩ (.int .u64 a2_4)).setCell ⟨gb533, 4, none⟩ (.int .u64 (Go.bits .xor .u64 IntKind.u64.max a2_4))).heap[gb532]? = some (.cells #[.int .i64 t527, .int .i64 t528, .int .i64 t529, .int .i64 t530, .int .u64 t531] 44 (0, 0))) := ⟨by (with_reducible repeat (first | refine blk_drewN ?_ _ | refine blk_drew ?_ | refine blk_alloc ?_ _)); refine blk_far ?_ NB532_533.out _; (with_reducible repeat (first | refine blk_drewN ?_ _ | refine blk_drew ?_ | refine blk_alloc ?_ _)); refine blk_far ?_ NB532_533.out _; (with_reducible repeat (first | refine blk_drewN ?_ _ | refine blk_drew ?_ | refine blk_alloc ?_ _)); refine blk_far ?_ NB532_533.out _; (with_reducible repeat (first | refine blk_drewN ?_ _ | refine blk_drew ?_ | refine blk_alloc ?_ _)); refine blk_far ?_ NB532_533.out _; (with_reducible repeat (first | refine blk_drewN ?_ _ | refine blk_drew ?_ | refine blk_alloc ?_ _)); refine blk_far ?_ NB532_533.out _; (with_reducible repeat (first | refine blk_drewN ?_ _ | refine blk_drew ?_ | refine blk_alloc ?_ _)); refine blk_far ?_ NB532_533.out _; (with_reducible repeat (first | refine blk_drewN ?_ _ | refine blk_drew ?_ | refine blk_alloc ?_ _)); exact BK532.out⟩
    have n2_ : Aside0 (((((((w26.setCell ⟨gb533, 0, none⟩ (.int .i64 a2_0)).setCell ⟨gb533, 1, none⟩ (.int .i64 a2_1)).setCell ⟨gb533, 2, none⟩ (.int .i64 a2_2)).setCell ⟨gb533, 3, none⟩ (.int .i64 a2_3)).setCell ⟨gb533, 4, none⟩ (.int .u64 a2_4)).setCell ⟨gb533, 4, none⟩ (.int .u64 (Go.bits .xor .u64 IntKind.u64.max a2_4))).heap[gb533]? = some (.cells #[.int .i64 a2_0, .int .i64 a2_1, .int .i64 a2_2, .int .i64 a2_3, .int .u64 (Go.bits .xor .u64 IntKind.u64.max a2_4)] 44 (0, 0))) := ⟨by (with_reducible repeat (first | refine blk_drewN ?_ _ | refine blk_drew ?_ | refine blk_alloc ?_ _)); refine blk_put (cs := #[.int .i64 a2_0, .int .i64 a2_1, .int .i64 a2_2, .int .i64 a2_3, .int .u64 a2_4]) ?_ 4 _ rfl; (with_reducible repeat (first | refine blk_drewN ?_ _ | refine blk_drew ?_ | refine blk_alloc ?_ _)); refine blk_put (cs := #[.int .i64 a2_0, .int .i64 a2_1, .int .i64 a2_2, .int .i64 a2_3, .int .u64 0]) ?_ 4 _ rfl; (with_reducible repeat (first | refine blk_drewN ?_ _ | refine blk_drew ?_ | refine blk_alloc ?_ _)); refine blk_put (cs := #[.int .i64 a2_0, .int .i64 a2_1, .int .i64 a2_2, .int .i64 0, .int .u64 0]) ?_ 3 _ rfl; (with_reducible repeat (first | refine blk_drewN ?_ _ | refine blk_drew ?_ | refine blk_alloc ?_ _)); refine blk_put (cs := #[.int .i64 a2_0, .int .i64 a2_1, .int .i64 0, .int .i64 0, .int .u64 0]) ?_ 2 _ rfl; (with_reducible repeat (first | refine blk_drewN ?_ _ | refine blk_drew ?_ | refine blk_alloc ?_ _)); refine blk_put (cs := #[.int .i64 a2_0, .int .i64 0, .int .i64 0, .int .i64 0, .int .u64 0]) ?_ 1 _ rfl; (with_reducible repeat (first | refine blk_drewN ?_ _ | refine blk_drew ?_ | refine blk_alloc ?_ _)); refine blk_put (cs := #[.int .i64 0, .int .i64 0, .int .i64 0, .int .i64 0, .int .u64 0]) ?_ 0 _ rfl; (with_reducible repeat (first | refine blk_drewN ?_ _ | refine blk_drew ?_ | refine blk_alloc ?_ _)); exact BK533.out⟩
    have n3_ : Aside0 (Below w.heap.size w ((((((w26.setCell ⟨gb533, 0, none⟩ (.int .i64 a2_0)).setCell ⟨gb533, 1, none⟩ (.int .i64 a2_1)).setCell ⟨gb533, 2, none⟩ (.int .i64 a2_2)).setCell ⟨gb533, 3, none⟩ (.int .i64 a2_3)).setCell ⟨gb533, 4, none⟩ (.int .u64 a2_4)).setCell ⟨gb533, 4, none⟩ (.int .u64 (Go.bits .xor .u64 IntKind.u64.max a2_4)))) := ⟨by repeat (first | (with_reducible first | exact HB.out | apply below_alloc | apply pw_below_drewN | apply below_drew1 | refine below_set ?_ GE525.out | refine below_set ?_ GE532.out | refine below_set ?_ GE533.out) | exact HB.out)⟩
    (try clear BK525)
    (try clear BK532)
    (try clear BK533)
    (try clear HB)
    generalize ((((((w26.setCell ⟨gb533, 0, none⟩ (.int .i64 a2_0)).setCell ⟨gb533, 1, none⟩ (.int .i64 a2_1)).setCell ⟨gb533, 2, none⟩ (.int .i64 a2_2)).setCell ⟨gb533, 3, none⟩ (.int .i64 a2_3)).setCell ⟨gb533, 4, none⟩ (.int .u64 a2_4)).setCell ⟨gb533, 4, none⟩ (.int .u64 (Go.bits .xor .u64 IntKind.u64.max a2_4))) = w31 at n0_ n1_ n2_ n3_ ⊢
    have BK525 := n0_
    have BK532 := n1_
    have BK533 := n2_
    have HB := n3_
    clear n0_ n1_ n2_ n3_
    have n0_ := Aside0.mk (blk_drew BK525.out)
    have n1_ := Aside0.mk (blk_drew BK532.out)
    have n2_ := Aside0.mk (blk_drew BK533.out)
    have n3_ := Aside0.mk (below_drew1 HB.out)
    clear BK525
    clear BK532
    clear BK533
    clear HB
    have BK525 := n0_
    have BK532 := n1_
    have BK533 := n2_
    have HB := n3_
    clear n0_ n1_ n2_ n3_
    refine start_ (n := 36) (S := fun w' => w'.cell? ⟨gb525, 0, none⟩ = some (.int .i64 a2_0) ∧ w'.cell? ⟨gb525, 1, none⟩ = some (.int .i64 a2_1) ∧ w'.cell? ⟨gb525, 2, none⟩ = some (.int .i64 a2_2) ∧ w'.cell? ⟨gb525, 3, none⟩ = some (.int .i64 a2_3) ∧ w'.cell? ⟨gb525, 4, none⟩ = some (.int .u64 a2_4) ∧ w'.cell? ⟨gb532, 0, none⟩ = some (.int .i64 t527) ∧ w'.cell? ⟨gb532, 1, none⟩ = some (.int .i64 t528) ∧ w'.cell? ⟨gb532, 2, none⟩ = some (.int .i64 t529) ∧ w'.cell? ⟨gb532, 3, none⟩ = some (.int .i64 t530) ∧ w'.cell? ⟨gb532, 4, none⟩ = some (.int .u64 t531) ∧ w'.cell? ⟨gb533, 0, none⟩ = some (.int .i64 a2_0) ∧ w'.cell? ⟨gb533, 1, none⟩ = some (.int .i64 a2_1) ∧ w'.cell? ⟨gb533, 2, none⟩ = some (.int .i64 a2_2) ∧ w'.cell? ⟨gb533, 3, none⟩ = some (.int .i64 a2_3) ∧ w'.cell? ⟨gb533, 4, none⟩ = some (.int .u64 (Go.bits .xor .u64 IntKind.u64.max a2_4))) (ds := []) #[false, false, false, false, false, false, false, false, false, false, false, false, false, false, false, false, false, false, false, false, false, false, false, false, false, false, false, false, false, false, false, false, false, false, false, false] (by kernel_rfl) rfl rfl ⟨(blk_cell BK525.out 0).trans rfl, (blk_cell BK525.out 1).trans rfl, (blk_cell BK525.out 2).trans rfl, (blk_cell BK525.out 3).trans rfl, (blk_cell BK525.out 4).trans rfl, (blk_cell BK532.out 0).trans rfl, (blk_cell BK532.out 1).trans rfl, (blk_cell BK532.out 2).trans rfl, (blk_cell BK532.out 3).trans rfl, (blk_cell BK532.out 4).trans rfl, (blk_cell BK533.out 0).trans rfl, (blk_cell BK533.out 1).trans rfl, (blk_cell BK533.out 2).trans rfl, (blk_cell BK533.out 3).trans rfl, (blk_cell BK533.out 4).trans rfl⟩ (fun hHeld => ?_); refine with_tabW chargeparklaw40_ChainLinks.tab5 chargeparklaw40_ChainLinks.bits5 (fun HT_ HW_ => ?_)
    generalize w31.drew = w32 at BK525 BK532 BK533 HB hHeld ⊢
    refine pure_ (i := 0) (N := some 28) (v := ?_) (a' := ?_) #[true, false, false, false, false, false, false, false, false, false, false, false, false, false, false, false, false, false, false, false, false, false, false, false, false, false, false, false, false, false, false, false, false, false, false, false] rfl rfl (any_of HT_.out (by kernel_rfl)) (fun _ _ _ h => h) (Or.inl ⟨by rfl, ?_⟩) ?_ ?_
    rotate_left
    ·intro w'
     go_simp
     with_reducible rfl
    rotate_left
    ·simp only [Act.put, List.setIfInBounds_toArray, List.set_cons_zero, List.set_cons_succ, i64_w, i32_w]
     rfl
    refine pure_ (i := 1) (N := some 29) (v := ?_) (a' := ?_) #[true, true, false, false, false, false, false, false, false, false, false, false, false, false, false, false, false, false, false, false, false, false, false, false, false, false, false, false, false, false, false, false, false, false, false, false] rfl rfl (any_of HT_.out (by kernel_rfl)) (fun _ _ _ h => h) (Or.inl ⟨by rfl, ?_⟩) ?_ ?_
    rotate_left
    ·intro w'
     go_simp
     with_reducible rfl
    rotate_left
    ·simp only [Act.put, List.setIfInBounds_toArray, List.set_cons_zero, List.set_cons_succ, i64_w, i32_w]
     rfl
    refine pure_ (i := 2) (N := some 30) (v := ?_) (a' := ?_) #[true, true, true, false, false, false, false, false, false, false, false, false, false, false, false, false, false, false, false, false, false, false, false, false, false, false, false, false, false, false, false, false, false, false, false, false] rfl rfl (any_of HT_.out (by kernel_rfl)) (fun _ _ _ h => h) (Or.inl ⟨by rfl, ?_⟩) ?_ ?_
    rotate_left
    ·intro w'
     go_simp
     with_reducible rfl
    rotate_left
    ·simp only [Act.put, List.setIfInBounds_toArray, List.set_cons_zero, List.set_cons_succ, i64_w, i32_w]
     rfl
    refine pure_ (i := 5) (N := some 33) (v := ?_) (a' := ?_) #[true, true, true, false, false, true, false, false, false, false, false, false, false, false, false, false, false, false, false, false, false, false, false, false, false, false, false, false, false, false, false, false, false, false, false, false] rfl rfl (any_of HT_.out (by kernel_rfl)) (fun _ _ _ h => h) (Or.inl ⟨by rfl, ?_⟩) ?_ ?_
    rotate_left
    ·intro w'
     go_simp
     with_reducible rfl
    rotate_left
    ·simp only [Act.put, List.setIfInBounds_toArray, List.set_cons_zero, List.set_cons_succ, i64_w, i32_w]
     rfl
    refine pure_ (i := 9) (N := some 37) (v := ?_) (a' := ?_) #[true, true, true, false, false, true, false, false, false, true, false, false, false, false, false, false, false, false, false, false, false, false, false, false, false, false, false, false, false, false, false, false, false, false, false, false] rfl rfl (any_of HT_.out (by kernel_rfl)) (fun _ _ _ h => h) (Or.inl ⟨by rfl, ?_⟩) ?_ ?_
    rotate_left
    ·intro w'
     go_simp
     with_reducible rfl
    rotate_left
    ·simp only [Act.put, List.setIfInBounds_toArray, List.set_cons_zero, List.set_cons_succ, i64_w, i32_w]
     rfl
    refine pure_ (i := 10) (N := some 38) (v := ?_) (a' := ?_) #[true, true, true, false, false, true, false, false, false, true, true, false, false, false, false, false, false, false, false, false, false, false, false, false, false, false, false, false, false, false, false, false, false, false, false, false] rfl rfl (any_of HT_.out (by kernel_rfl)) (fun _ _ _ h => h) (Or.inl ⟨by rfl, ?_⟩) ?_ ?_
    rotate_left
    ·intro w'
     go_simp
     with_reducible rfl
    rotate_left
    ·simp only [Act.put, List.setIfInBounds_toArray, List.set_cons_zero, List.set_cons_succ, i64_w, i32_w]
     rfl
    refine pure_ (i := 11) (N := some 39) (v := ?_) (a' := ?_) #[true, true, true, false, false, true, false, false, false, true, true, true, false, false, false, false, false, false, false, false, false, false, false, false, false, false, false, false, false, false, false, false, false, false, false, false] rfl rfl (any_of HT_.out (by kernel_rfl)) (fun _ _ _ h => h) (Or.inl ⟨by rfl, ?_⟩) ?_ ?_
    rotate_left
    ·intro w'
     go_simp
     with_reducible rfl
    rotate_left
    ·simp only [Act.put, List.setIfInBounds_toArray, List.set_cons_zero, List.set_cons_succ, i64_w, i32_w]
     rfl
    refine take_ (i := 3) (N := some 31) (v := ?_) (a' := ?_) #[true, true, true, true, false, true, false, false, false, true, true, true, false, false, false, false, false, false, false, false, false, false, false, false, false, false, false, false, false, false, false, false, false, false, false, false] rfl rfl (take_ofW HT_.out HW_.out (by kernel_rfl)) (fun _ _ _ h => h) (Or.inl ⟨by rfl, ?_⟩) hHeld ?_ ?_
    rotate_left
    ·rintro w' ⟨s0, s1, s2, s3, s4, s5, s6, s7, s8, s9, s10, s11, s12, s13, s14⟩
     go_simp
     with_reducible rfl
    rotate_left
    ·simp only [Act.put, List.setIfInBounds_toArray, List.set_cons_zero, List.set_cons_succ, i64_w, i32_w]
     rfl
    refine take_ (i := 6) (N := some 34) (v := ?_) (a' := ?_) #[true, true, true, true, false, true, true, false, false, true, true, true, false, false, false, false, false, false, false, false, false, false, false, false, false, false, false, false, false, false, false, false, false, false, false, false] rfl rfl (take_ofW HT_.out HW_.out (by kernel_rfl)) (fun _ _ _ h => h) (Or.inl ⟨by rfl, ?_⟩) hHeld ?_ ?_
    rotate_left
    ·rintro w' ⟨s0, s1, s2, s3, s4, s5, s6, s7, s8, s9, s10, s11, s12, s13, s14⟩
     go_simp
     with_reducible rfl
    rotate_left
    ·simp only [Act.put, List.setIfInBounds_toArray, List.set_cons_zero, List.set_cons_succ, i64_w, i32_w]
     rfl
    refine one_ (i := 4) (N := some 32) #[true, true, true, true, true, true, true, false, false, true, true, true, false, false, false, false, false, false, false, false, false, false, false, false, false, false, false, false, false, false, false, false, false, false, false, false] rfl rfl (one_of HT_.out (by kernel_rfl)) (by decide) (fun K hK => ?_)
    refine goes_ Try.func32 (by kernel_rfl) rfl #[.int .u64 a0, .agg #[.int .i64 a2_0, .int .i64 a2_1, .int .i64 a2_2, .int .i64 a2_3, .int .u64 a2_4]] (by rfl) rfl rfl (by (try simp only [List.map_toArray, List.map_cons, List.map_nil]); first | done | rfl | (simp only [List.length_drop, List.length_take]; rfl)) ?_
    with_reducible refine (chain_Link.calls a0 a2_0 a2_1 a2_2 a2_3 a2_4 t534 _ A10.out).mono ?_
    rintro e w33 ⟨rfl, hb⟩
    refine ⟨_, rfl, ?_⟩
    have n0_ := Aside0.mk (blk_below (g := gb525) (o := .cells #[.int .i64 a2_0, .int .i64 a2_1, .int .i64 a2_2, .int .i64 a2_3, .int .u64 a2_4] 44 (0, 0)) (by (with_reducible repeat (first | refine blk_drewN ?_ _ | refine blk_drew ?_ | refine blk_alloc ?_ _)); exact BK525.out) hb)
    have n1_ := Aside0.mk (blk_below (g := gb532) (o := .cells #[.int .i64 t527, .int .i64 t528, .int .i64 t529, .int .i64 t530, .int .u64 t531] 44 (0, 0)) (by (with_reducible repeat (first | refine blk_drewN ?_ _ | refine blk_drew ?_ | refine blk_alloc ?_ _)); exact BK532.out) hb)
    have n2_ := Aside0.mk (blk_below (g := gb533) (o := .cells #[.int .i64 a2_0, .int .i64 a2_1, .int .i64 a2_2, .int .i64 a2_3, .int .u64 (Go.bits .xor .u64 IntKind.u64.max a2_4)] 44 (0, 0)) (by (with_reducible repeat (first | refine blk_drewN ?_ _ | refine blk_drew ?_ | refine blk_alloc ?_ _)); exact BK533.out) hb)
    have n3_ := Aside0.mk (below_step (by repeat (first | (with_reducible first | exact HB.out | apply below_alloc | apply pw_below_drewN | apply below_drew1 | refine below_set ?_ GE525.out | refine below_set ?_ GE532.out | refine below_set ?_ GE533.out) | exact HB.out)) hb)
    clear BK525
    clear BK532
    clear BK533
    clear HB
    have BK525 := n0_
    have BK532 := n1_
    have BK533 := n2_
    have HB := n3_
    clear n0_ n1_ n2_ n3_
    (try clear hb)
    (try clear hb2)
    (try clear hk)
    (try clear hi)
    refine hK.out _ _ ⟨(blk_cell BK525.out 0).trans rfl, (blk_cell BK525.out 1).trans rfl, (blk_cell BK525.out 2).trans rfl, (blk_cell BK525.out 3).trans rfl, (blk_cell BK525.out 4).trans rfl, (blk_cell BK532.out 0).trans rfl, (blk_cell BK532.out 1).trans rfl, (blk_cell BK532.out 2).trans rfl, (blk_cell BK532.out 3).trans rfl, (blk_cell BK532.out 4).trans rfl, (blk_cell BK533.out 0).trans rfl, (blk_cell BK533.out 1).trans rfl, (blk_cell BK533.out 2).trans rfl, (blk_cell BK533.out 3).trans rfl, (blk_cell BK533.out 4).trans rfl⟩ (fun hHeld => ?_)
    clear hK K
    refine norm_ (a' := ?_) ?_ ?_
    rotate_left
    ·show Act.put _ (some 32) _ = _
     simp only [Act.put, List.setIfInBounds_toArray, List.set_cons_zero, List.set_cons_succ, i64_w, i32_w]
     rfl
    refine one_ (i := 7) (N := some 35) #[true, true, true, true, true, true, true, true, false, true, true, true, false, false, false, false, false, false, false, false, false, false, false, false, false, false, false, false, false, false, false, false, false, false, false, false] rfl rfl (one_of HT_.out (by kernel_rfl)) (by decide) (fun K hK => ?_)
    refine goes_ Try.func32 (by kernel_rfl) rfl #[.int .u64 a1, .agg #[.int .i64 a2_0, .int .i64 a2_1, .int .i64 a2_2, .int .i64 a2_3, .int .u64 a2_4]] (by rfl) rfl rfl (by (try simp only [List.map_toArray, List.map_cons, List.map_nil]); first | done | rfl | (simp only [List.length_drop, List.length_take]; rfl)) ?_
    with_reducible refine (chain_Link.calls a1 a2_0 a2_1 a2_2 a2_3 a2_4 t535 _ A11.out).mono ?_
    rintro e w34 ⟨rfl, hb⟩
    refine ⟨_, rfl, ?_⟩
    have n0_ := Aside0.mk (blk_below (g := gb525) (o := .cells #[.int .i64 a2_0, .int .i64 a2_1, .int .i64 a2_2, .int .i64 a2_3, .int .u64 a2_4] 44 (0, 0)) (by (with_reducible repeat (first | refine blk_drewN ?_ _ | refine blk_drew ?_ | refine blk_alloc ?_ _)); exact BK525.out) hb)
    have n1_ := Aside0.mk (blk_below (g := gb532) (o := .cells #[.int .i64 t527, .int .i64 t528, .int .i64 t529, .int .i64 t530, .int .u64 t531] 44 (0, 0)) (by (with_reducible repeat (first | refine blk_drewN ?_ _ | refine blk_drew ?_ | refine blk_alloc ?_ _)); exact BK532.out) hb)
    have n2_ := Aside0.mk (blk_below (g := gb533) (o := .cells #[.int .i64 a2_0, .int .i64 a2_1, .int .i64 a2_2, .int .i64 a2_3, .int .u64 (Go.bits .xor .u64 IntKind.u64.max a2_4)] 44 (0, 0)) (by (with_reducible repeat (first | refine blk_drewN ?_ _ | refine blk_drew ?_ | refine blk_alloc ?_ _)); exact BK533.out) hb)
    have n3_ := Aside0.mk (below_step (by repeat (first | (with_reducible first | exact HB.out | apply below_alloc | apply pw_below_drewN | apply below_drew1 | refine below_set ?_ GE525.out | refine below_set ?_ GE532.out | refine below_set ?_ GE533.out) | exact HB.out)) hb)
    clear BK525
    clear BK532
    clear BK533
    clear HB
    have BK525 := n0_
    have BK532 := n1_
    have BK533 := n2_
    have HB := n3_
    clear n0_ n1_ n2_ n3_
    (try clear hb)
    (try clear hb2)
    (try clear hk)
    (try clear hi)
    refine hK.out _ _ ⟨(blk_cell BK525.out 0).trans rfl, (blk_cell BK525.out 1).trans rfl, (blk_cell BK525.out 2).trans rfl, (blk_cell BK525.out 3).trans rfl, (blk_cell BK525.out 4).trans rfl, (blk_cell BK532.out 0).trans rfl, (blk_cell BK532.out 1).trans rfl, (blk_cell BK532.out 2).trans rfl, (blk_cell BK532.out 3).trans rfl, (blk_cell BK532.out 4).trans rfl, (blk_cell BK533.out 0).trans rfl, (blk_cell BK533.out 1).trans rfl, (blk_cell BK533.out 2).trans rfl, (blk_cell BK533.out 3).trans rfl, (blk_cell BK533.out 4).trans rfl⟩ (fun hHeld => ?_)
    clear hK K
    refine norm_ (a' := ?_) ?_ ?_
    rotate_left
    ·show Act.put _ (some 35) _ = _
     simp only [Act.put, List.setIfInBounds_toArray, List.set_cons_zero, List.set_cons_succ, i64_w, i32_w]
     rfl
    refine pure_ (i := 8) (N := some 36) (v := ?_) (a' := ?_) #[true, true, true, true, true, true, true, true, true, true, true, true, false, false, false, false, false, false, false, false, false, false, false, false, false, false, false, false, false, false, false, false, false, false, false, false] rfl rfl (any_of HT_.out (by kernel_rfl)) (fun _ _ _ h => h) (Or.inl ⟨by rfl, ?_⟩) ?_ ?_
    rotate_left
    ·intro w'
     go_simp
     with_reducible rfl
    rotate_left
    ·simp only [Act.put, List.setIfInBounds_toArray, List.set_cons_zero, List.set_cons_succ, i64_w, i32_w]
     rfl
    refine pure_ (i := 12) (N := some 40) (v := ?_) (a' := ?_) #[true, true, true, true, true, true, true, true, true, true, true, true, true, false, false, false, false, false, false, false, false, false, false, false, false, false, false, false, false, false, false, false, false, false, false, false] rfl rfl (any_of HT_.out (by kernel_rfl)) (fun _ _ _ h => h) (Or.inl ⟨by rfl, ?_⟩) ?_ ?_
    rotate_left
    ·intro w'
     go_simp
     with_reducible rfl
    rotate_left
    ·simp only [Act.put, List.setIfInBounds_toArray, List.set_cons_zero, List.set_cons_succ, i64_w, i32_w]
     rfl
    refine pure_ (i := 13) (N := some 41) (v := ?_) (a' := ?_) #[true, true, true, true, true, true, true, true, true, true, true, true, true, true, false, false, false, false, false, false, false, false, false, false, false, false, false, false, false, false, false, false, false, false, false, false] rfl rfl (any_of HT_.out (by kernel_rfl)) (fun _ _ _ h => h) (Or.inl ⟨by rfl, ?_⟩) ?_ ?_
    rotate_left
    ·intro w'
     go_simp
     with_reducible rfl
    rotate_left
    ·simp only [Act.put, List.setIfInBounds_toArray, List.set_cons_zero, List.set_cons_succ, i64_w, i32_w]
     rfl
    refine pure_ (i := 14) (N := some 42) (v := ?_) (a' := ?_) #[true, true, true, true, true, true, true, true, true, true, true, true, true, true, true, false, false, false, false, false, false, false, false, false, false, false, false, false, false, false, false, false, false, false, false, false] rfl rfl (any_of HT_.out (by kernel_rfl)) (fun _ _ _ h => h) (Or.inl ⟨by rfl, ?_⟩) ?_ ?_
    rotate_left
    ·intro w'
     go_simp
     with_reducible rfl
    rotate_left
    ·simp only [Act.put, List.setIfInBounds_toArray, List.set_cons_zero, List.set_cons_succ, i64_w, i32_w]
     rfl
    refine pure_ (i := 15) (N := some 43) (v := ?_) (a' := ?_) #[true, true, true, true, true, true, true, true, true, true, true, true, true, true, true, true, false, false, false, false, false, false, false, false, false, false, false, false, false, false, false, false, false, false, false, false] rfl rfl (any_of HT_.out (by kernel_rfl)) (fun _ _ _ h => h) (Or.inl ⟨by rfl, ?_⟩) ?_ ?_
    rotate_left
    ·intro w'
     go_simp
     with_reducible rfl
    rotate_left
    ·simp only [Act.put, List.setIfInBounds_toArray, List.set_cons_zero, List.set_cons_succ, i64_w, i32_w]
     rfl
    refine pure_ (i := 18) (N := some 46) (v := ?_) (a' := ?_) #[true, true, true, true, true, true, true, true, true, true, true, true, true, true, true, true, false, false, true, false, false, false, false, false, false, false, false, false, false, false, false, false, false, false, false, false] rfl rfl (any_of HT_.out (by kernel_rfl)) (fun _ _ _ h => h) (Or.inl ⟨by rfl, ?_⟩) ?_ ?_
    rotate_left
    ·intro w'
     go_simp
     with_reducible rfl
    rotate_left
    ·simp only [Act.put, List.setIfInBounds_toArray, List.set_cons_zero, List.set_cons_succ, i64_w, i32_w]
     rfl
    refine pure_ (i := 22) (N := some 50) (v := ?_) (a' := ?_) #[true, true, true, true, true, true, true, true, true, true, true, true, true, true, true, true, false, false, true, false, false, false, true, false, false, false, false, false, false, false, false, false, false, false, false, false] rfl rfl (any_of HT_.out (by kernel_rfl)) (fun _ _ _ h => h) (Or.inl ⟨by rfl, ?_⟩) ?_ ?_
    rotate_left
    ·intro w'
     go_simp
     with_reducible rfl
    rotate_left
    ·simp only [Act.put, List.setIfInBounds_toArray, List.set_cons_zero, List.set_cons_succ, i64_w, i32_w]
     rfl
    refine pure_ (i := 23) (N := some 51) (v := ?_) (a' := ?_) #[true, true, true, true, true, true, true, true, true, true, true, true, true, true, true, true, false, false, true, false, false, false, true, true, false, false, false, false, false, false, false, false, false, false, false, false] rfl rfl (any_of HT_.out (by kernel_rfl)) (fun _ _ _ h => h) (Or.inl ⟨by rfl, ?_⟩) ?_ ?_
    rotate_left
    ·intro w'
     go_simp
     with_reducible rfl
    rotate_left
    ·simp only [Act.put, List.setIfInBounds_toArray, List.set_cons_zero, List.set_cons_succ, i64_w, i32_w]
     rfl
    refine take_ (i := 16) (N := some 44) (v := ?_) (a' := ?_) #[true, true, true, true, true, true, true, true, true, true, true, true, true, true, true, true, true, false, true, false, false, false, true, true, false, false, false, false, false, false, false, false, false, false, false, false] rfl rfl (take_ofW HT_.out HW_.out (by kernel_rfl)) (fun _ _ _ h => h) (Or.inl ⟨by rfl, ?_⟩) hHeld ?_ ?_
    rotate_left
    ·rintro w' ⟨s0, s1, s2, s3, s4, s5, s6, s7, s8, s9, s10, s11, s12, s13, s14⟩
     go_simp
     with_reducible rfl
    rotate_left
    ·simp only [Act.put, List.setIfInBounds_toArray, List.set_cons_zero, List.set_cons_succ, i64_w, i32_w]
     rfl
    refine take_ (i := 19) (N := some 47) (v := ?_) (a' := ?_) #[true, true, true, true, true, true, true, true, true, true, true, true, true, true, true, true, true, false, true, true, false, false, true, true, false, false, false, false, false, false, false, false, false, false, false, false] rfl rfl (take_ofW HT_.out HW_.out (by kernel_rfl)) (fun _ _ _ h => h) (Or.inl ⟨by rfl, ?_⟩) hHeld ?_ ?_
    rotate_left
    ·rintro w' ⟨s0, s1, s2, s3, s4, s5, s6, s7, s8, s9, s10, s11, s12, s13, s14⟩
     go_simp
     with_reducible rfl
    rotate_left
    ·simp only [Act.put, List.setIfInBounds_toArray, List.set_cons_zero, List.set_cons_succ, i64_w, i32_w]
     rfl
    refine one_ (i := 17) (N := some 45) #[true, true, true, true, true, true, true, true, true, true, true, true, true, true, true, true, true, true, true, true, false, false, true, true, false, false, false, false, false, false, false, false, false, false, false, false] rfl rfl (one_of HT_.out (by kernel_rfl)) (by decide) (fun K hK => ?_)
    refine goes_ Try.func32 (by kernel_rfl) rfl #[.int .u64 a0, .agg #[.int .i64 a2_0, .int .i64 a2_1, .int .i64 a2_2, .int .i64 a2_3, .int .u64 a2_4]] (by rfl) rfl rfl (by (try simp only [List.map_toArray, List.map_cons, List.map_nil]); first | done | rfl | (simp only [List.length_drop, List.length_take]; rfl)) ?_
    with_reducible refine (chain_Link.calls a0 a2_0 a2_1 a2_2 a2_3 a2_4 t536 _ A13.out).mono ?_
    rintro e w35 ⟨rfl, hb⟩
    refine ⟨_, rfl, ?_⟩
    have n0_ := Aside0.mk (blk_below (g := gb525) (o := .cells #[.int .i64 a2_0, .int .i64 a2_1, .int .i64 a2_2, .int .i64 a2_3, .int .u64 a2_4] 44 (0, 0)) (by (with_reducible repeat (first | refine blk_drewN ?_ _ | refine blk_drew ?_ | refine blk_alloc ?_ _)); exact BK525.out) hb)
    have n1_ := Aside0.mk (blk_below (g := gb532) (o := .cells #[.int .i64 t527, .int .i64 t528, .int .i64 t529, .int .i64 t530, .int .u64 t531] 44 (0, 0)) (by (with_reducible repeat (first | refine blk_drewN ?_ _ | refine blk_drew ?_ | refine blk_alloc ?_ _)); exact BK532.out) hb)
    have n2_ := Aside0.mk (blk_below (g := gb533) (o := .cells #[.int .i64 a2_0, .int .i64 a2_1, .int .i64 a2_2, .int .i64 a2_3, .int .u64 (Go.bits .xor .u64 IntKind.u64.max a2_4)] 44 (0, 0)) (by (with_reducible repeat (first | refine blk_drewN ?_ _ | refine blk_drew ?_ | refine blk_alloc ?_ _)); exact BK533.out) hb)
    have n3_ := Aside0.mk (below_step (by repeat (first | (with_reducible first | exact HB.out | apply below_alloc | apply pw_below_drewN | apply below_drew1 | refine below_set ?_ GE525.out | refine below_set ?_ GE532.out | refine below_set ?_ GE533.out) | exact HB.out)) hb)
    clear BK525
    clear BK532
    clear BK533
    clear HB
    have BK525 := n0_
    have BK532 := n1_
    have BK533 := n2_
    have HB := n3_
    clear n0_ n1_ n2_ n3_
    (try clear hb)
    (try clear hb2)
    (try clear hk)
    (try clear hi)
    refine hK.out _ _ ⟨(blk_cell BK525.out 0).trans rfl, (blk_cell BK525.out 1).trans rfl, (blk_cell BK525.out 2).trans rfl, (blk_cell BK525.out 3).trans rfl, (blk_cell BK525.out 4).trans rfl, (blk_cell BK532.out 0).trans rfl, (blk_cell BK532.out 1).trans rfl, (blk_cell BK532.out 2).trans rfl, (blk_cell BK532.out 3).trans rfl, (blk_cell BK532.out 4).trans rfl, (blk_cell BK533.out 0).trans rfl, (blk_cell BK533.out 1).trans rfl, (blk_cell BK533.out 2).trans rfl, (blk_cell BK533.out 3).trans rfl, (blk_cell BK533.out 4).trans rfl⟩ (fun hHeld => ?_)
    clear hK K
    refine norm_ (a' := ?_) ?_ ?_
    rotate_left
    ·show Act.put _ (some 45) _ = _
     simp only [Act.put, List.setIfInBounds_toArray, List.set_cons_zero, List.set_cons_succ, i64_w, i32_w]
     rfl
    refine one_ (i := 20) (N := some 48) #[true, true, true, true, true, true, true, true, true, true, true, true, true, true, true, true, true, true, true, true, true, false, true, true, false, false, false, false, false, false, false, false, false, false, false, false] rfl rfl (one_of HT_.out (by kernel_rfl)) (by decide) (fun K hK => ?_)
    refine goes_ Try.func32 (by kernel_rfl) rfl #[.int .u64 a0, .agg #[.int .i64 t527, .int .i64 t528, .int .i64 t529, .int .i64 t530, .int .u64 t531]] (by rfl) rfl rfl (by (try simp only [List.map_toArray, List.map_cons, List.map_nil]); first | done | rfl | (simp only [List.length_drop, List.length_take]; rfl)) ?_
    with_reducible refine (chain_Link.calls a0 t527 t528 t529 t530 t531 t537 _ A14.out).mono ?_
    rintro e w36 ⟨rfl, hb⟩
    refine ⟨_, rfl, ?_⟩
    have n0_ := Aside0.mk (blk_below (g := gb525) (o := .cells #[.int .i64 a2_0, .int .i64 a2_1, .int .i64 a2_2, .int .i64 a2_3, .int .u64 a2_4] 44 (0, 0)) (by (with_reducible repeat (first | refine blk_drewN ?_ _ | refine blk_drew ?_ | refine blk_alloc ?_ _)); exact BK525.out) hb)
    have n1_ := Aside0.mk (blk_below (g := gb532) (o := .cells #[.int .i64 t527, .int .i64 t528, .int .i64 t529, .int .i64 t530, .int .u64 t531] 44 (0, 0)) (by (with_reducible repeat (first | refine blk_drewN ?_ _ | refine blk_drew ?_ | refine blk_alloc ?_ _)); exact BK532.out) hb)
    have n2_ := Aside0.mk (blk_below (g := gb533) (o := .cells #[.int .i64 a2_0, .int .i64 a2_1, .int .i64 a2_2, .int .i64 a2_3, .int .u64 (Go.bits .xor .u64 IntKind.u64.max a2_4)] 44 (0, 0)) (by (with_reducible repeat (first | refine blk_drewN ?_ _ | refine blk_drew ?_ | refine blk_alloc ?_ _)); exact BK533.out) hb)
    have n3_ := Aside0.mk (below_step (by repeat (first | (with_reducible first | exact HB.out | apply below_alloc | apply pw_below_drewN | apply below_drew1 | refine below_set ?_ GE525.out | refine below_set ?_ GE532.out | refine below_set ?_ GE533.out) | exact HB.out)) hb)
    clear BK525
    clear BK532
    clear BK533
    clear HB
    have BK525 := n0_
    have BK532 := n1_
    have BK533 := n2_
    have HB := n3_
    clear n0_ n1_ n2_ n3_
    (try clear hb)
    (try clear hb2)
    (try clear hk)
    (try clear hi)
    refine hK.out _ _ ⟨(blk_cell BK525.out 0).trans rfl, (blk_cell BK525.out 1).trans rfl, (blk_cell BK525.out 2).trans rfl, (blk_cell BK525.out 3).trans rfl, (blk_cell BK525.out 4).trans rfl, (blk_cell BK532.out 0).trans rfl, (blk_cell BK532.out 1).trans rfl, (blk_cell BK532.out 2).trans rfl, (blk_cell BK532.out 3).trans rfl, (blk_cell BK532.out 4).trans rfl, (blk_cell BK533.out 0).trans rfl, (blk_cell BK533.out 1).trans rfl, (blk_cell BK533.out 2).trans rfl, (blk_cell BK533.out 3).trans rfl, (blk_cell BK533.out 4).trans rfl⟩ (fun hHeld => ?_)
    clear hK K
    refine norm_ (a' := ?_) ?_ ?_
    rotate_left
    ·show Act.put _ (some 48) _ = _
     simp only [Act.put, List.setIfInBounds_toArray, List.set_cons_zero, List.set_cons_succ, i64_w, i32_w]
     rfl
    refine pure_ (i := 21) (N := some 49) (v := ?_) (a' := ?_) #[true, true, true, true, true, true, true, true, true, true, true, true, true, true, true, true, true, true, true, true, true, true, true, true, false, false, false, false, false, false, false, false, false, false, false, false] rfl rfl (any_of HT_.out (by kernel_rfl)) (fun _ _ _ h => h) (Or.inl ⟨by rfl, ?_⟩) ?_ ?_
    rotate_left
    ·intro w'
     go_simp
     with_reducible rfl
    rotate_left
    ·simp only [Act.put, List.setIfInBounds_toArray, List.set_cons_zero, List.set_cons_succ, i64_w, i32_w]
     rfl
    refine pure_ (i := 24) (N := some 52) (v := ?_) (a' := ?_) #[true, true, true, true, true, true, true, true, true, true, true, true, true, true, true, true, true, true, true, true, true, true, true, true, true, false, false, false, false, false, false, false, false, false, false, false] rfl rfl (any_of HT_.out (by kernel_rfl)) (fun _ _ _ h => h) (Or.inl ⟨by rfl, ?_⟩) ?_ ?_
    rotate_left
    ·intro w'
     go_simp
     with_reducible rfl
    rotate_left
    ·simp only [Act.put, List.setIfInBounds_toArray, List.set_cons_zero, List.set_cons_succ, i64_w, i32_w]
     rfl
    refine pure_ (i := 25) (N := some 53) (v := ?_) (a' := ?_) #[true, true, true, true, true, true, true, true, true, true, true, true, true, true, true, true, true, true, true, true, true, true, true, true, true, true, false, false, false, false, false, false, false, false, false, false] rfl rfl (any_of HT_.out (by kernel_rfl)) (fun _ _ _ h => h) (Or.inl ⟨by rfl, ?_⟩) ?_ ?_
    rotate_left
    ·intro w'
     go_simp
     with_reducible rfl
    rotate_left
    ·simp only [Act.put, List.setIfInBounds_toArray, List.set_cons_zero, List.set_cons_succ, i64_w, i32_w]
     rfl
    refine pure_ (i := 26) (N := some 54) (v := ?_) (a' := ?_) #[true, true, true, true, true, true, true, true, true, true, true, true, true, true, true, true, true, true, true, true, true, true, true, true, true, true, true, false, false, false, false, false, false, false, false, false] rfl rfl (any_of HT_.out (by kernel_rfl)) (fun _ _ _ h => h) (Or.inl ⟨by rfl, ?_⟩) ?_ ?_
    rotate_left
    ·intro w'
     go_simp
     with_reducible rfl
    rotate_left
    ·simp only [Act.put, List.setIfInBounds_toArray, List.set_cons_zero, List.set_cons_succ, i64_w, i32_w]
     rfl
    refine pure_ (i := 27) (N := some 55) (v := ?_) (a' := ?_) #[true, true, true, true, true, true, true, true, true, true, true, true, true, true, true, true, true, true, true, true, true, true, true, true, true, true, true, true, false, false, false, false, false, false, false, false] rfl rfl (any_of HT_.out (by kernel_rfl)) (fun _ _ _ h => h) (Or.inl ⟨by rfl, ?_⟩) ?_ ?_
    rotate_left
    ·intro w'
     go_simp
     with_reducible rfl
    rotate_left
    ·simp only [Act.put, List.setIfInBounds_toArray, List.set_cons_zero, List.set_cons_succ, i64_w, i32_w]
     rfl
    refine pure_ (i := 30) (N := some 58) (v := ?_) (a' := ?_) #[true, true, true, true, true, true, true, true, true, true, true, true, true, true, true, true, true, true, true, true, true, true, true, true, true, true, true, true, false, false, true, false, false, false, false, false] rfl rfl (any_of HT_.out (by kernel_rfl)) (fun _ _ _ h => h) (Or.inl ⟨by rfl, ?_⟩) ?_ ?_
    rotate_left
    ·intro w'
     go_simp
     with_reducible rfl
    rotate_left
    ·simp only [Act.put, List.setIfInBounds_toArray, List.set_cons_zero, List.set_cons_succ, i64_w, i32_w]
     rfl
    refine take_ (i := 28) (N := some 56) (v := ?_) (a' := ?_) #[true, true, true, true, true, true, true, true, true, true, true, true, true, true, true, true, true, true, true, true, true, true, true, true, true, true, true, true, true, false, true, false, false, false, false, false] rfl rfl (take_ofW HT_.out HW_.out (by kernel_rfl)) (fun _ _ _ h => h) (Or.inl ⟨by rfl, ?_⟩) hHeld ?_ ?_
    rotate_left
    ·rintro w' ⟨s0, s1, s2, s3, s4, s5, s6, s7, s8, s9, s10, s11, s12, s13, s14⟩
     go_simp
     with_reducible rfl
    rotate_left
    ·simp only [Act.put, List.setIfInBounds_toArray, List.set_cons_zero, List.set_cons_succ, i64_w, i32_w]
     rfl
    refine take_ (i := 31) (N := some 59) (v := ?_) (a' := ?_) #[true, true, true, true, true, true, true, true, true, true, true, true, true, true, true, true, true, true, true, true, true, true, true, true, true, true, true, true, true, false, true, true, false, false, false, false] rfl rfl (take_ofW HT_.out HW_.out (by kernel_rfl)) (fun _ _ _ h => h) (Or.inl ⟨by rfl, ?_⟩) hHeld ?_ ?_
    rotate_left
    ·rintro w' ⟨s0, s1, s2, s3, s4, s5, s6, s7, s8, s9, s10, s11, s12, s13, s14⟩
     go_simp
     with_reducible rfl
    rotate_left
    ·simp only [Act.put, List.setIfInBounds_toArray, List.set_cons_zero, List.set_cons_succ, i64_w, i32_w]
     rfl
    refine one_ (i := 29) (N := some 57) #[true, true, true, true, true, true, true, true, true, true, true, true, true, true, true, true, true, true, true, true, true, true, true, true, true, true, true, true, true, true, true, true, false, false, false, false] rfl rfl (one_of HT_.out (by kernel_rfl)) (by decide) (fun K hK => ?_)
    refine goes_ Try.func32 (by kernel_rfl) rfl #[.int .u64 a0, .agg #[.int .i64 a2_0, .int .i64 a2_1, .int .i64 a2_2, .int .i64 a2_3, .int .u64 a2_4]] (by rfl) rfl rfl (by (try simp only [List.map_toArray, List.map_cons, List.map_nil]); first | done | rfl | (simp only [List.length_drop, List.length_take]; rfl)) ?_
    with_reducible refine (chain_Link.calls a0 a2_0 a2_1 a2_2 a2_3 a2_4 t538 _ A16.out).mono ?_
    rintro e w37 ⟨rfl, hb⟩
    refine ⟨_, rfl, ?_⟩
    have n0_ := Aside0.mk (blk_below (g := gb525) (o := .cells #[.int .i64 a2_0, .int .i64 a2_1, .int .i64 a2_2, .int .i64 a2_3, .int .u64 a2_4] 44 (0, 0)) (by (with_reducible repeat (first | refine blk_drewN ?_ _ | refine blk_drew ?_ | refine blk_alloc ?_ _)); exact BK525.out) hb)
    have n1_ := Aside0.mk (blk_below (g := gb532) (o := .cells #[.int .i64 t527, .int .i64 t528, .int .i64 t529, .int .i64 t530, .int .u64 t531] 44 (0, 0)) (by (with_reducible repeat (first | refine blk_drewN ?_ _ | refine blk_drew ?_ | refine blk_alloc ?_ _)); exact BK532.out) hb)
    have n2_ := Aside0.mk (blk_below (g := gb533) (o := .cells #[.int .i64 a2_0, .int .i64 a2_1, .int .i64 a2_2, .int .i64 a2_3, .int .u64 (Go.bits .xor .u64 IntKind.u64.max a2_4)] 44 (0, 0)) (by (with_reducible repeat (first | refine blk_drewN ?_ _ | refine blk_drew ?_ | refine blk_alloc ?_ _)); exact BK533.out) hb)
    have n3_ := Aside0.mk (below_step (by repeat (first | (with_reducible first | exact HB.out | apply below_alloc | apply pw_below_drewN | apply below_drew1 | refine below_set ?_ GE525.out | refine below_set ?_ GE532.out | refine below_set ?_ GE533.out) | exact HB.out)) hb)
    clear BK525
    clear BK532
    clear BK533
    clear HB
    have BK525 := n0_
    have BK532 := n1_
    have BK533 := n2_
    have HB := n3_
    clear n0_ n1_ n2_ n3_
    (try clear hb)
    (try clear hb2)
    (try clear hk)
    (try clear hi)
    refine hK.out _ _ ⟨(blk_cell BK525.out 0).trans rfl, (blk_cell BK525.out 1).trans rfl, (blk_cell BK525.out 2).trans rfl, (blk_cell BK525.out 3).trans rfl, (blk_cell BK525.out 4).trans rfl, (blk_cell BK532.out 0).trans rfl, (blk_cell BK532.out 1).trans rfl, (blk_cell BK532.out 2).trans rfl, (blk_cell BK532.out 3).trans rfl, (blk_cell BK532.out 4).trans rfl, (blk_cell BK533.out 0).trans rfl, (blk_cell BK533.out 1).trans rfl, (blk_cell BK533.out 2).trans rfl, (blk_cell BK533.out 3).trans rfl, (blk_cell BK533.out 4).trans rfl⟩ (fun hHeld => ?_)
    clear hK K
    refine norm_ (a' := ?_) ?_ ?_
    rotate_left
    ·show Act.put _ (some 57) _ = _
     simp only [Act.put, List.setIfInBounds_toArray, List.set_cons_zero, List.set_cons_succ, i64_w, i32_w]
     rfl
    refine one_ (i := 32) (N := some 60) #[true, true, true, true, true, true, true, true, true, true, true, true, true, true, true, true, true, true, true, true, true, true, true, true, true, true, true, true, true, true, true, true, true, false, false, false] rfl rfl (one_of HT_.out (by kernel_rfl)) (by decide) (fun K hK => ?_)
    refine goes_ Try.func32 (by kernel_rfl) rfl #[.int .u64 a0, .agg #[.int .i64 a2_0, .int .i64 a2_1, .int .i64 a2_2, .int .i64 a2_3, .int .u64 (Go.bits .xor .u64 IntKind.u64.max a2_4)]] (by rfl) rfl rfl (by (try simp only [List.map_toArray, List.map_cons, List.map_nil]); first | done | rfl | (simp only [List.length_drop, List.length_take]; rfl)) ?_
    with_reducible refine (chain_Link.calls a0 a2_0 a2_1 a2_2 a2_3 (Go.bits .xor .u64 IntKind.u64.max a2_4) t539 _ A17.out).mono ?_
    rintro e w38 ⟨rfl, hb⟩
    refine ⟨_, rfl, ?_⟩
    have n0_ := Aside0.mk (blk_below (g := gb525) (o := .cells #[.int .i64 a2_0, .int .i64 a2_1, .int .i64 a2_2, .int .i64 a2_3, .int .u64 a2_4] 44 (0, 0)) (by (with_reducible repeat (first | refine blk_drewN ?_ _ | refine blk_drew ?_ | refine blk_alloc ?_ _)); exact BK525.out) hb)
    have n1_ := Aside0.mk (blk_below (g := gb532) (o := .cells #[.int .i64 t527, .int .i64 t528, .int .i64 t529, .int .i64 t530, .int .u64 t531] 44 (0, 0)) (by (with_reducible repeat (first | refine blk_drewN ?_ _ | refine blk_drew ?_ | refine blk_alloc ?_ _)); exact BK532.out) hb)
    have n2_ := Aside0.mk (blk_below (g := gb533) (o := .cells #[.int .i64 a2_0, .int .i64 a2_1, .int .i64 a2_2, .int .i64 a2_3, .int .u64 (Go.bits .xor .u64 IntKind.u64.max a2_4)] 44 (0, 0)) (by (with_reducible repeat (first | refine blk_drewN ?_ _ | refine blk_drew ?_ | refine blk_alloc ?_ _)); exact BK533.out) hb)
    have n3_ := Aside0.mk (below_step (by repeat (first | (with_reducible first | exact HB.out | apply below_alloc | apply pw_below_drewN | apply below_drew1 | refine below_set ?_ GE525.out | refine below_set ?_ GE532.out | refine below_set ?_ GE533.out) | exact HB.out)) hb)
    clear BK525
    clear BK532
    clear BK533
    clear HB
    have BK525 := n0_
    have BK532 := n1_
    have BK533 := n2_
    have HB := n3_
    clear n0_ n1_ n2_ n3_
    (try clear hb)
    (try clear hb2)
    (try clear hk)
    (try clear hi)
    refine hK.out _ _ ⟨(blk_cell BK525.out 0).trans rfl, (blk_cell BK525.out 1).trans rfl, (blk_cell BK525.out 2).trans rfl, (blk_cell BK525.out 3).trans rfl, (blk_cell BK525.out 4).trans rfl, (blk_cell BK532.out 0).trans rfl, (blk_cell BK532.out 1).trans rfl, (blk_cell BK532.out 2).trans rfl, (blk_cell BK532.out 3).trans rfl, (blk_cell BK532.out 4).trans rfl, (blk_cell BK533.out 0).trans rfl, (blk_cell BK533.out 1).trans rfl, (blk_cell BK533.out 2).trans rfl, (blk_cell BK533.out 3).trans rfl, (blk_cell BK533.out 4).trans rfl⟩ (fun hHeld => ?_)
    clear hK K
    refine norm_ (a' := ?_) ?_ ?_
    rotate_left
    ·show Act.put _ (some 60) _ = _
     simp only [Act.put, List.setIfInBounds_toArray, List.set_cons_zero, List.set_cons_succ, i64_w, i32_w]
     rfl
    refine pure_ (i := 33) (N := some 61) (v := ?_) (a' := ?_) #[true, true, true, true, true, true, true, true, true, true, true, true, true, true, true, true, true, true, true, true, true, true, true, true, true, true, true, true, true, true, true, true, true, true, false, false] rfl rfl (any_of HT_.out (by kernel_rfl)) (fun _ _ _ h => h) (Or.inl ⟨by rfl, ?_⟩) ?_ ?_
    rotate_left
    ·intro w'
     go_simp
     with_reducible rfl
    rotate_left
    ·simp only [Act.put, List.setIfInBounds_toArray, List.set_cons_zero, List.set_cons_succ, i64_w, i32_w]
     rfl
    refine pure_ (i := 34) (N := some 62) (v := ?_) (a' := ?_) #[true, true, true, true, true, true, true, true, true, true, true, true, true, true, true, true, true, true, true, true, true, true, true, true, true, true, true, true, true, true, true, true, true, true, true, false] rfl rfl (any_of HT_.out (by kernel_rfl)) (fun _ _ _ h => h) (Or.inl ⟨by rfl, ?_⟩) ?_ ?_
    rotate_left
    ·intro w'
     go_simp
     with_reducible rfl
    rotate_left
    ·simp only [Act.put, List.setIfInBounds_toArray, List.set_cons_zero, List.set_cons_succ, i64_w, i32_w]
     rfl
    refine pure_ (i := 35) (N := some 12) (v := ?_) (a' := ?_) #[true, true, true, true, true, true, true, true, true, true, true, true, true, true, true, true, true, true, true, true, true, true, true, true, true, true, true, true, true, true, true, true, true, true, true, true] rfl rfl (any_of HT_.out (by kernel_rfl)) (fun _ _ _ h => h) (Or.inl ⟨by rfl, ?_⟩) ?_ ?_
    rotate_left
    ·intro w'
     go_simp
     with_reducible rfl
    rotate_left
    ·simp only [Act.put, List.setIfInBounds_toArray, List.set_cons_zero, List.set_cons_succ, i64_w, i32_w]
     rfl
    refine done_ (done_of HT_.out (by kernel_rfl)) ?_
    try go_wp2
    go_ret
    exact ⟨by first | rfl | (simp [errW_none, errW_some] <;> rfl) | (simp [*, errW_none, errW_some] <;> rfl), by repeat (first | (with_reducible first | exact HB.out | apply below_alloc | apply pw_below_drewN | apply below_drew1 | refine below_set ?_ GE525.out | refine below_set ?_ GE532.out | refine below_set ?_ GE533.out) | exact HB.out)⟩
   ·rw [if_neg c15] at H
    have c15b0 : ((t536 == t537) == (a5 == 0)) = false := by simpa using c15
    (try (have c15b1 : decide ((t536 == t537) = (a5 == 0)) = false := by simpa using c15))
    (try (have c15b2 : ((t536 == t537) == (a5 == 0)) = false := by simpa using c15))
    (try (have c15b3 : ¬ ((t536 == t537) = (a5 == 0)) := by simpa using c15))
    clear c15
    exact absurd ((Option.some.inj H).trans hT_.out) (by decide)
  ·rw [if_neg c12] at H
   have c12b0 : ((t534 == t535) == (a0 == a1)) = false := by simpa using c12
   (try (have c12b1 : decide ((t534 == t535) = (a0 == a1)) = false := by simpa using c12))
   (try (have c12b2 : ((t534 == t535) == (a0 == a1)) = false := by simpa using c12))
   (try (have c12b3 : ¬ ((t534 == t535) = (a0 == a1)) := by simpa using c12))
   clear c12
   exact absurd ((Option.some.inj H).trans hT_.out) (by decide)
 ·replace c9 := Bool.eq_false_iff.mpr c9
  subst c9
  have H1 : (some false) = some r := by rw [if_neg (show ¬ (false = true) by decide)] at H; exact H
  clear H
  have H := H1
  clear H1
  exact absurd ((Option.some.inj H).trans hT_.out) (by decide)

end Go.Proofs.Ytenkffjlpdappaa.Pr
