-- Printed by hprint.py (a program of this claim's session over the kit's printer).
import Derived.Test.YtbkkgaiokmnmgaaPrx0
import Derived.Test.YtbkkgaiokmnmgaaHShort
import Derived.Test.YtbkkgaiokmnmgaaPrx8
import Derived.Test.YtbkkgaiokmnmgaaPrx9
import Derived.Test.YtbkkgaiokmnmgaaPrx10
import Derived.Test.YtbkkgaiokmnmgaaHBillL
namespace Go.Proofs.Ytbkkgaiokmnmgaa.Pr
open Go.RowKit Go.Proofs.YtbkkgaiokmnmgaaW.PrintWords Go.Proofs.YtbkkgaiokmnmgaaW.PrintLast Go.Proofs.YtbkkgaiokmnmgaaW.PrintMore
attribute [local go_sem] max2_int min2_int max_two min_two max_three min_three max_four min_four   -- for this text's walks alone
set_option linter.unusedVariables false
set_option linter.unusedSimpArgs false

/-! ### chargeparklaw33_BillExactly: function 6 -/
mutual
def chargeparklaw33_BillExactly.j0 : Nat → Int → Int → Int → Bool → Bool → Int → Int → Int → List (S50) → Option (Bool)
 | 0, _, _, _, _, _, _, _, _, _ => none
 | k + 1, x1, x2, x3, x9, x11, x478000, x478001, x478002, x478003 => if x11 = true then (if x1 < 0 then (chargeparklaw33_BillExactly.j1 k x1 x2 x3 x9 true x478000 x478001 x478002 x478003) else (if x1 > 100000 then (chargeparklaw33_BillExactly.j1 k x1 x2 x3 x9 true x478000 x478001 x478002 x478003) else (if x2 < 1 then (chargeparklaw33_BillExactly.j1 k x1 x2 x3 x9 true x478000 x478001 x478002 x478003) else (if x2 > 1440 then (chargeparklaw33_BillExactly.j1 k x1 x2 x3 x9 true x478000 x478001 x478002 x478003) else (if x3 < 0 then (chargeparklaw33_BillExactly.j1 k x1 x2 x3 x9 true x478000 x478001 x478002 x478003) else (chargeparklaw33_BillExactly.j1 k x1 x2 x3 x9 (decide (x3 > 1440)) x478000 x478001 x478002 x478003)))))) else (chargeparklaw33_BillExactly.j1 k x1 x2 x3 x9 true x478000 x478001 x478002 x478003)
def chargeparklaw33_BillExactly.j1 : Nat → Int → Int → Int → Bool → Bool → Int → Int → Int → List (S50) → Option (Bool)
 | 0, _, _, _, _, _, _, _, _, _ => none
 | k + 1, x1, x2, x3, x9, x60, x478000, x478001, x478002, x478003 => if x60 = true then (some x9) else (chargeparklaw33_BillExactly.l0 k x1 x2 x3 x9 0 0 x478000 x478001 x478002 x478003 0)
def chargeparklaw33_BillExactly.l0 : Nat → Int → Int → Int → Bool → Int → Int → Int → Int → Int → List (S50) → Int → Option (Bool)
 | 0, _, _, _, _, _, _, _, _, _, _, _ => none
 | k + 1, x1, x2, x3, x9, x13, x14, x478000, x478001, x478002, x478003, x482000 => if x14 < (x478003.length : Int) then (if 0 ≤ x14 then (chargeparklaw33_BillExactly.l0 k x1 x2 x3 x9 (wrap64 (x13 + ((rd_T50 x478003 x14).f1))) (wrap64 (x14 + 1)) x478000 x478001 x478002 x478003 x482000) else (none)) else ((chargeparklaw33_article.f 1 x1 0 0).bind fun bt483 => ((bill_Line.f bt483.1 bt483.2.1 bt483.2.2.1 bt483.2.2.2.1 bt483.2.2.2.2.1 bt483.2.2.2.2.2.1 bt483.2.2.2.2.2.2 x482000 ([] : List (S99)) ([] : List Int) x478000 x478001 x478002 x478003).bind fun bt490 => ((chargeparklaw33_article.f 2 x1 0 0).bind fun bt492 => ((bill_Line.f bt492.1 bt492.2.1 bt492.2.2.1 bt492.2.2.2.1 bt492.2.2.2.2.1 bt492.2.2.2.2.2.1 bt492.2.2.2.2.2.2 x482000 ([] : List (S99)) ([] : List Int) x478000 x478001 x478002 x478003).bind fun bt499 => ((chargeparklaw33_article.f 3 x1 x2 x3).bind fun bt501 => ((bill_Line.f bt501.1 bt501.2.1 bt501.2.2.1 bt501.2.2.2.1 bt501.2.2.2.2.1 bt501.2.2.2.2.2.1 bt501.2.2.2.2.2.2 x482000 ([] : List (S99)) ([] : List Int) x478000 x478001 x478002 x478003).bind fun bt508 => ((chargeparklaw33_article.f 4 x1 x2 x3).bind fun bt510 => ((bill_Line.f bt510.1 bt510.2.1 bt510.2.2.1 bt510.2.2.2.1 bt510.2.2.2.2.1 bt510.2.2.2.2.2.1 bt510.2.2.2.2.2.2 x482000 ([] : List (S99)) ([] : List Int) x478000 x478001 x478002 x478003).bind fun bt517 => (if x9 = true then (if bt490.2 = 0 then (if bt499.2 = 0 then (if bt508.2 = 0 then (if bt517.2 = 0 then (if bt490.1 = x1 then (if bt499.1 = (wrap64 (Int.tdiv (wrap64 ((wrap64 (x1 * x13)) + 500)) 1000)) then (if x2 = 0 then (none) else (if bt508.1 = (wrap64 (x1 * (wrap64 (Int.tdiv (wrap64 ((wrap64 ((mx 0 (wrap64 ((wrap64 (x478001 - x478000)) - x3))) + x2)) - 1)) x2)))) then (some (bt517.1 == (wrap64 (x1 * (wrap64 (Int.tdiv (wrap64 ((wrap64 ((mx 0 (wrap64 ((wrap64 (x478001 - x478002)) - x3))) + x2)) - 1)) x2)))))) else (some false))) else (some false)) else (some false)) else (some false)) else (some false)) else (some false)) else (some false)) else (some false))))))))))
end
def chargeparklaw33_BillExactly.f (k : Nat) (a0_0 : Int) (a0_1 : Int) (a0_2 : Int) (l0_3 : List (S50)) (a1 : Int) (a2 : Int) (a3 : Int) : Option (Bool) := (chargeparklaw33_head.f).bind fun t478 => ((chargeparkref33_Few.f (⟨#[]⟩ : ByteArray) ([] : List (S26)) 0 ([] : List (S99)) ([] : List Int) a0_0 a0_1 a0_2 l0_3).bind fun t479 => (if t479 = true then ((chargeparkref33_Valid.f k a0_0 a0_1 a0_2 l0_3).bind fun t480 => (chargeparklaw33_BillExactly.j0 k a1 a2 a3 t478 t480 a0_0 a0_1 a0_2 l0_3)) else (chargeparklaw33_BillExactly.j0 k a1 a2 a3 t478 false a0_0 a0_1 a0_2 l0_3)))
theorem chargeparklaw33_BillExactly.mono_l : ∀ k, (∀ y0 y1 y2 y3 y4 y5 y6 y7 y8, LeO (chargeparklaw33_BillExactly.j0 k y0 y1 y2 y3 y4 y5 y6 y7 y8) (chargeparklaw33_BillExactly.j0 (k + 1) y0 y1 y2 y3 y4 y5 y6 y7 y8)) ∧ (∀ y0 y1 y2 y3 y4 y5 y6 y7 y8, LeO (chargeparklaw33_BillExactly.j1 k y0 y1 y2 y3 y4 y5 y6 y7 y8) (chargeparklaw33_BillExactly.j1 (k + 1) y0 y1 y2 y3 y4 y5 y6 y7 y8)) ∧ (∀ y0 y1 y2 y3 y4 y5 y6 y7 y8 y9 y10, LeO (chargeparklaw33_BillExactly.l0 k y0 y1 y2 y3 y4 y5 y6 y7 y8 y9 y10) (chargeparklaw33_BillExactly.l0 (k + 1) y0 y1 y2 y3 y4 y5 y6 y7 y8 y9 y10))
 | 0 => ⟨fun _ _ _ _ _ _ _ _ _ r h => by simp [chargeparklaw33_BillExactly.j0] at h, fun _ _ _ _ _ _ _ _ _ r h => by simp [chargeparklaw33_BillExactly.j1] at h, fun _ _ _ _ _ _ _ _ _ _ _ r h => by simp [chargeparklaw33_BillExactly.l0] at h⟩
 | k + 1 => by
  obtain ⟨ih0, ih1, ih2⟩ := chargeparklaw33_BillExactly.mono_l k
  refine ⟨?_, ?_, ?_⟩
  ·intro y0 y1 y2 y3 y4 y5 y6 y7 y8
   unfold chargeparklaw33_BillExactly.j0
   repeat' first
   | (with_reducible exact ih0 _ _ _ _ _ _ _ _ _)
   | (with_reducible exact ih1 _ _ _ _ _ _ _ _ _)
   | (with_reducible exact ih2 _ _ _ _ _ _ _ _ _ _ _)
   | (with_reducible exact chargeparkref33_Valid.mono _ _ _ _ _)
   | (with_reducible exact LeO.refl _)
   | (with_reducible exact LeO.none _)
   | (with_reducible refine LeO.ite ?_ ?_)
   | (with_reducible refine LeO.bind ?_ (fun _ => ?_))
   | exact ih0 _ _ _ _ _ _ _ _ _
   | exact ih1 _ _ _ _ _ _ _ _ _
   | exact ih2 _ _ _ _ _ _ _ _ _ _ _
   | exact chargeparkref33_Valid.mono _ _ _ _ _
   | exact LeO.none _
   | refine LeO.ite ?_ ?_
   | refine LeO.bind ?_ (fun _ => ?_)
  ·intro y0 y1 y2 y3 y4 y5 y6 y7 y8
   unfold chargeparklaw33_BillExactly.j1
   repeat' first
   | (with_reducible exact ih0 _ _ _ _ _ _ _ _ _)
   | (with_reducible exact ih1 _ _ _ _ _ _ _ _ _)
   | (with_reducible exact ih2 _ _ _ _ _ _ _ _ _ _ _)
   | (with_reducible exact chargeparkref33_Valid.mono _ _ _ _ _)
   | (with_reducible exact LeO.refl _)
   | (with_reducible exact LeO.none _)
   | (with_reducible refine LeO.ite ?_ ?_)
   | (with_reducible refine LeO.bind ?_ (fun _ => ?_))
   | exact ih0 _ _ _ _ _ _ _ _ _
   | exact ih1 _ _ _ _ _ _ _ _ _
   | exact ih2 _ _ _ _ _ _ _ _ _ _ _
   | exact chargeparkref33_Valid.mono _ _ _ _ _
   | exact LeO.none _
   | refine LeO.ite ?_ ?_
   | refine LeO.bind ?_ (fun _ => ?_)
  ·intro y0 y1 y2 y3 y4 y5 y6 y7 y8 y9 y10
   unfold chargeparklaw33_BillExactly.l0
   repeat' first
   | (with_reducible exact ih0 _ _ _ _ _ _ _ _ _)
   | (with_reducible exact ih1 _ _ _ _ _ _ _ _ _)
   | (with_reducible exact ih2 _ _ _ _ _ _ _ _ _ _ _)
   | (with_reducible exact chargeparkref33_Valid.mono _ _ _ _ _)
   | (with_reducible exact LeO.refl _)
   | (with_reducible exact LeO.none _)
   | (with_reducible refine LeO.ite ?_ ?_)
   | (with_reducible refine LeO.bind ?_ (fun _ => ?_))
   | exact ih0 _ _ _ _ _ _ _ _ _
   | exact ih1 _ _ _ _ _ _ _ _ _
   | exact ih2 _ _ _ _ _ _ _ _ _ _ _
   | exact chargeparkref33_Valid.mono _ _ _ _ _
   | exact LeO.none _
   | refine LeO.ite ?_ ?_
   | refine LeO.bind ?_ (fun _ => ?_)
theorem chargeparklaw33_BillExactly.mono : ∀ a0 a1 a2 a3 a4 a5 a6 k, LeO (chargeparklaw33_BillExactly.f k a0 a1 a2 a3 a4 a5 a6) (chargeparklaw33_BillExactly.f (k + 1) a0 a1 a2 a3 a4 a5 a6) := by
 intro a0 a1 a2 a3 a4 a5 a6 k
 obtain ⟨ih0, ih1, ih2⟩ := chargeparklaw33_BillExactly.mono_l k
 unfold chargeparklaw33_BillExactly.f
 repeat' first
   | (with_reducible exact ih0 _ _ _ _ _ _ _ _ _)
   | (with_reducible exact ih1 _ _ _ _ _ _ _ _ _)
   | (with_reducible exact ih2 _ _ _ _ _ _ _ _ _ _ _)
   | (with_reducible exact chargeparkref33_Valid.mono _ _ _ _ _)
   | (with_reducible exact LeO.refl _)
   | (with_reducible exact LeO.none _)
   | (with_reducible refine LeO.ite ?_ ?_)
   | (with_reducible refine LeO.bind ?_ (fun _ => ?_))
   | exact ih0 _ _ _ _ _ _ _ _ _
   | exact ih1 _ _ _ _ _ _ _ _ _
   | exact ih2 _ _ _ _ _ _ _ _ _ _ _
   | exact chargeparkref33_Valid.mono _ _ _ _ _
   | exact LeO.none _
   | refine LeO.ite ?_ ?_
   | refine LeO.bind ?_ (fun _ => ?_)
def chargeparklaw33_BillExactly.T14 : Bool × List (List Nat × List Nat) := (true, [([], []), ([0], [0]), ([], []), ([], []), ([1, 2, 3, 1], [1, 2, 3]), ([4], [4]), ([5], [5]), ([5], [5]), ([6, 4, 0, 1, 2, 3, 4, 5, 6], [6]), ([7, 8, 0, 1, 2, 3, 4, 5, 6, 7, 8], [7])])
def chargeparklaw33_BillExactly.B14 : List Nat := [0, 1, 0, 0, 15, 31, 63, 63, 127, 511]
theorem chargeparklaw33_BillExactly.tab14 : rtab .any (opsOf Try.f6 14) = chargeparklaw33_BillExactly.T14 := by kernel_rfl
theorem chargeparklaw33_BillExactly.bits14 : waitsOk chargeparklaw33_BillExactly.T14.2 chargeparklaw33_BillExactly.B14 = true := by kernel_rfl
def chargeparklaw33_BillExactly.T15 : Bool × List (List Nat × List Nat) := (true, [([], []), ([0], [0]), ([], []), ([], []), ([1, 2, 3, 1], [1, 2, 3]), ([4], [4]), ([5], [5]), ([5], [5]), ([6, 4, 0, 1, 2, 3, 4, 5, 6], [6]), ([7, 8, 0, 1, 2, 3, 4, 5, 6, 7, 8], [7])])
def chargeparklaw33_BillExactly.B15 : List Nat := [0, 1, 0, 0, 15, 31, 63, 63, 127, 511]
theorem chargeparklaw33_BillExactly.tab15 : rtab .any (opsOf Try.f6 15) = chargeparklaw33_BillExactly.T15 := by kernel_rfl
theorem chargeparklaw33_BillExactly.bits15 : waitsOk chargeparklaw33_BillExactly.T15.2 chargeparklaw33_BillExactly.B15 = true := by kernel_rfl
def chargeparklaw33_BillExactly.T16 : Bool × List (List Nat × List Nat) := (true, [([], []), ([], []), ([], []), ([0, 1, 2], [0, 1, 2]), ([], []), ([], []), ([3, 4, 5, 3], [3, 4, 5]), ([6], [6]), ([7], [7]), ([7], [7]), ([8, 6, 0, 1, 2, 3, 4, 5, 6, 7, 8], [8]), ([9, 10, 0, 1, 2, 3, 4, 5, 6, 7, 8, 9, 10], [9])])
def chargeparklaw33_BillExactly.B16 : List Nat := [0, 0, 0, 7, 0, 0, 63, 127, 255, 255, 511, 2047]
theorem chargeparklaw33_BillExactly.tab16 : rtab .any (opsOf Try.f6 16) = chargeparklaw33_BillExactly.T16 := by kernel_rfl
theorem chargeparklaw33_BillExactly.bits16 : waitsOk chargeparklaw33_BillExactly.T16.2 chargeparklaw33_BillExactly.B16 = true := by kernel_rfl
def chargeparklaw33_BillExactly.T17 : Bool × List (List Nat × List Nat) := (true, [([], []), ([], []), ([], []), ([0, 1, 2], [0, 1, 2]), ([], []), ([], []), ([3, 4, 5, 3], [3, 4, 5]), ([6], [6]), ([7], [7]), ([7], [7]), ([8, 6, 0, 1, 2, 3, 4, 5, 6, 7, 8], [8]), ([9, 10, 0, 1, 2, 3, 4, 5, 6, 7, 8, 9, 10], [9])])
def chargeparklaw33_BillExactly.B17 : List Nat := [0, 0, 0, 7, 0, 0, 63, 127, 255, 255, 511, 2047]
theorem chargeparklaw33_BillExactly.tab17 : rtab .any (opsOf Try.f6 17) = chargeparklaw33_BillExactly.T17 := by kernel_rfl
theorem chargeparklaw33_BillExactly.bits17 : waitsOk chargeparklaw33_BillExactly.T17.2 chargeparklaw33_BillExactly.B17 = true := by kernel_rfl
set_option maxHeartbeats 8000000 in
set_option maxRecDepth 100000 in
theorem chargeparklaw33_BillExactly.calls (k : Nat) (a0_0 : Int) (a0_1 : Int) (a0_2 : Int) (A0_3 : Option Addr) (c0_3 : Nat) (l0_3 : List (S50)) (a1 : Int) (a2 : Int) (a3 : Int) (r : Bool) (w : World) (hr0_3 : Kd.C k50 w A0_3 l0_3.length l0_3) (hc0_3 : l0_3.length ≤ c0_3) (hT_ : Aside0 (r = true)) (h : chargeparklaw33_BillExactly.f k a0_0 a0_1 a0_2 l0_3 a1 a2 a3 = some r) :
  Calls Try.prog 6 #[.agg #[.int .i64 a0_0, .int .i64 a0_1, .int .i64 a0_2, .slice A0_3 l0_3.length c0_3], .int .i64 a1, .int .i64 a2, .int .i64 a3] w fun e w' => e = .returned (.bool r) ∧ Below w.heap.size w w' := by
 have hu33 := Try.underlying33
 have hu24 := Try.underlying24
 have hu30 := Try.underlying30
 have HR0_3 := Aside0.mk hr0_3
 have HC0_3 := Aside0.mk hc0_3
 clear hr0_3 hc0_3
 have HB := Aside0.mk (Below.refl w.heap.size w)
 have H : ((chargeparklaw33_head.f).bind fun t478 => ((chargeparkref33_Few.f (⟨#[]⟩ : ByteArray) ([] : List (S26)) 0 ([] : List (S99)) ([] : List Int) a0_0 a0_1 a0_2 l0_3).bind fun t479 => (if t479 = true then ((chargeparkref33_Valid.f k a0_0 a0_1 a0_2 l0_3).bind fun t480 => (chargeparklaw33_BillExactly.j0 k a1 a2 a3 t478 t480 a0_0 a0_1 a0_2 l0_3)) else (chargeparklaw33_BillExactly.j0 k a1 a2 a3 t478 false a0_0 a0_1 a0_2 l0_3)))) = some r := h
 clear h
 replace H := Option.bind_eq_some_iff.mp H
 obtain ⟨t478, A50, H⟩ := H
 have A5 := Aside0.mk A50
 clear A50
 replace H := Option.bind_eq_some_iff.mp H
 obtain ⟨t479, A60, H⟩ := H
 replace H : (if t479 = true then ((chargeparkref33_Valid.f k a0_0 a0_1 a0_2 l0_3).bind fun t480 => (chargeparklaw33_BillExactly.j0 k a1 a2 a3 t478 t480 a0_0 a0_1 a0_2 l0_3)) else (chargeparklaw33_BillExactly.j0 k a1 a2 a3 t478 false a0_0 a0_1 a0_2 l0_3)) = some r := H
 have A6 := Aside0.mk A60
 clear A60
 have HC7 := Aside0.mk H
 clear H
 go_enter Try.func6, Try.ntmps6
 go_upto_region 3 with (first | ((with_reducible refine gate_dst (N := 4) rfl ?_); refine box_event ?hg (N := 4) ?hd (cs := #[.int .i64 a0_0, .int .i64 a0_1, .int .i64 a0_2, .slice A0_3 l0_3.length c0_3]) (t := 33) ?hr ?_; (case hd => rfl); (case hg => rfl); (case hr => first | (go_simp; done) | (go_simp; rfl)); intro gb477 hg w8 hbox hb; have n0_ := Aside0.mk (below_step (hb_ HB) hb); have n1_ := Aside0.mk (hbox); have n2_ := Aside0.mk ((by rw [hg]; exact (below_size (hb_ HB)) : w.heap.size ≤ gb477)); have n3_ := Aside0.mk ((by rw [hg]; exact (below_size (hb_ HB)) : w.heap.size ≤ gb477)); clear HB; have HB := n0_; have BK477 := n1_; have GW477 := n2_; have GE477 := n3_; clear n0_ n1_ n2_ n3_; clear hb hbox hg) | ((with_reducible refine gate_callee (f := 25) rfl ?_); refine goesL_ (some 25) rfl rfl Try.func25 (by kernel_rfl) rfl #[] rfl mp_ ?_; (with_reducible refine (chargeparklaw33_head.calls  t478 _ A5.out).mono ?_); rintro e w9 ⟨rfl, hb⟩; refine ⟨_, rfl, ?_⟩; have n0_ := (bb_ BK477 hb); have n1_ := Aside0.mk (below_step (hb_ HB) hb); clear BK477; clear HB; have BK477 := n0_; have HB := n1_; clear n0_ n1_; (try clear hb); (try clear hb2); (try clear hk); (try clear hi); have hcz10_0 : w9.cell? ⟨gb477, 0, none⟩ = some (.int .i64 a0_0) := bc_ BK477 0; have hcz10_1 : w9.cell? ⟨gb477, 1, none⟩ = some (.int .i64 a0_1) := bc_ BK477 1; have hcz10_2 : w9.cell? ⟨gb477, 2, none⟩ = some (.int .i64 a0_2) := bc_ BK477 2; have hcz10_3 : w9.cell? ⟨gb477, 3, none⟩ = some (.slice A0_3 l0_3.length c0_3) := bc_ BK477 3; have hfz10_0 := blk_frozen BK477.out 0; have hfz10_1 := blk_frozen BK477.out 1; have hfz10_2 := blk_frozen BK477.out 2; have hfz10_3 := blk_frozen BK477.out 3) | ((with_reducible refine gate_callee (f := 26) rfl ?_); refine goesL_ (some 29) rfl rfl Try.func26 (by kernel_rfl) rfl #[.agg #[.string (⟨#[]⟩ : ByteArray), .slice none 0 0], .agg #[.int .i64 0, .slice none 0 0, .slice none 0 0], .agg #[.int .i64 a0_0, .int .i64 a0_1, .int .i64 a0_2, .slice A0_3 l0_3.length c0_3]] rfl mp_ ?_; (refine (chargeparkref33_Few.calls (⟨#[]⟩ : ByteArray) _ _ ([] : List (S26)) 0 _ _ ([] : List (S99)) _ _ ([] : List Int) a0_0 a0_1 a0_2 _ _ l0_3 t479 _ ?side1 ?side2 ?side3 ?side4 ?side5 ?side6 ?side7 ?side8 A6.out).mono ?_); (case side1 => exact Kd.C_nil _ _); (case side2 => exact Nat.le_refl _); (case side3 => exact Kd.C_nil _ _); (case side4 => exact Nat.le_refl _); (case side5 => exact Kd.C_nil _ _); (case side6 => exact Nat.le_refl _); (case side7 => repeat (first | exact (Kd.C_below HR0_3.out HB.out) | (with_reducible refine Kd.C_alloc ?_ _) | (with_reducible refine Kd.C_drewN ?_ _) | (with_reducible refine Kd.C_drew ?_))); (case side8 => exact HC0_3.out); rintro e w11 ⟨rfl, hb⟩; refine ⟨_, rfl, ?_⟩; have n0_ := (bb_ BK477 hb); have n1_ := Aside0.mk (below_step (hb_ HB) hb); clear BK477; clear HB; have BK477 := n0_; have HB := n1_; clear n0_ n1_; (try clear hb); (try clear hb2); (try clear hk); (try clear hi)))
 (try simp only [Act.put, List.setIfInBounds_toArray, List.set_cons_zero, List.set_cons_succ])
 go_cut [11] (fun v11 wc => ∃ (kq : Nat) (x11_6 : Bool), v11 = .bool x11_6 ∧ Aside0 (chargeparklaw33_BillExactly.j0 kq a1 a2 a3 t478 x11_6 a0_0 a0_1 a0_2 l0_3 = some r) ∧ Aside0 (kq ≤ k) ∧ Aside0 (wc.heap[gb477]? = some (.cells #[.int .i64 a0_0, .int .i64 a0_1, .int .i64 a0_2, (.slice A0_3 l0_3.length c0_3)] 33 (0, 0))) ∧ Aside0 (Below w.heap.size w wc))
 case first =>
  have H := HC7.out
  clear HC7
  by_cases c12 : t479 = true
  ·subst c12
   have H1 : ((chargeparkref33_Valid.f k a0_0 a0_1 a0_2 l0_3).bind fun t480 => (chargeparklaw33_BillExactly.j0 k a1 a2 a3 t478 t480 a0_0 a0_1 a0_2 l0_3)) = some r := by rw [if_pos rfl] at H; exact H
   clear H
   have H := H1
   clear H1
   replace H := Option.bind_eq_some_iff.mp H
   obtain ⟨t480, A130, H⟩ := H
   have A13 := Aside0.mk A130
   clear A130
   have H' := Aside0.mk H
   clear H
   have hcz14_0 : w11.cell? ⟨gb477, 0, none⟩ = some (.int .i64 a0_0) := bc_ BK477 0
   have hcz14_1 : w11.cell? ⟨gb477, 1, none⟩ = some (.int .i64 a0_1) := bc_ BK477 1
   have hcz14_2 : w11.cell? ⟨gb477, 2, none⟩ = some (.int .i64 a0_2) := bc_ BK477 2
   have hcz14_3 : w11.cell? ⟨gb477, 3, none⟩ = some (.slice A0_3 l0_3.length c0_3) := bc_ BK477 3
   have hfz14_0 := blk_frozen BK477.out 0
   have hfz14_1 := blk_frozen BK477.out 1
   have hfz14_2 := blk_frozen BK477.out 2
   have hfz14_3 := blk_frozen BK477.out 3
   go_wp2_with (first | (go_at_call 33; (with_reducible refine (chargeparkref33_Valid.calls k a0_0 a0_1 a0_2 _ _ l0_3 t480 _ ?side1 ?side2 A13.out).mono ?_); (case side1 => repeat (first | exact (Kd.C_below HR0_3.out HB.out) | (with_reducible refine Kd.C_alloc ?_ _) | (with_reducible refine Kd.C_drewN ?_ _) | (with_reducible refine Kd.C_drew ?_))); (case side2 => exact HC0_3.out); rintro e w15 ⟨rfl, hb⟩; have n0_ := (bb_ BK477 hb); have n1_ := Aside0.mk (below_step (hb_ HB) hb); clear BK477; clear HB; have BK477 := n0_; have HB := n1_; clear n0_ n1_; (try clear hb); (try clear hb2); (try clear hk); (try clear hi)))
   go_meet
   case rel => exact ⟨_, (t480), (by first | rfl | (simp; done) | (simp [*]; done)), H', ⟨by first | omega | exact Nat.le_refl _⟩, ⟨by (with_reducible repeat (first | refine blk_drewN ?_ _ | refine blk_drew ?_ | refine blk_alloc ?_ _)); exact BK477.out⟩, ⟨by repeat (first | (with_reducible first | exact HB.out | apply below_alloc | apply pw_below_drewN | apply below_drew1 | refine below_set ?_ GE477.out) | exact HB.out)⟩⟩
  ·replace c12 := Bool.eq_false_iff.mpr c12
   subst c12
   have H1 : (chargeparklaw33_BillExactly.j0 k a1 a2 a3 t478 false a0_0 a0_1 a0_2 l0_3) = some r := by rw [if_neg (show ¬ (false = true) by decide)] at H; exact H
   clear H
   have H := H1
   clear H1
   have H' := Aside0.mk H
   clear H
   go_wp2
   go_meet
   case rel => exact ⟨_, (false), (by first | rfl | (simp; done) | (simp [*]; done)), H', ⟨by first | omega | exact Nat.le_refl _⟩, ⟨by (with_reducible repeat (first | refine blk_drewN ?_ _ | refine blk_drew ?_ | refine blk_alloc ?_ _)); exact BK477.out⟩, ⟨by repeat (first | (with_reducible first | exact HB.out | apply below_alloc | apply pw_below_drewN | apply below_drew1 | refine below_set ?_ GE477.out) | exact HB.out)⟩⟩
 case rest =>
  clear HC7
  try clear c1
  try clear c2
  try clear p2
  try clear c6
  try clear c12
  try clear hcz10_0
  try clear hcz10_1
  try clear hcz10_2
  try clear hcz10_3
  try clear hcz14_0
  try clear hcz14_1
  try clear hcz14_2
  try clear hcz14_3
  try clear hfz10_0
  try clear hfz10_1
  try clear hfz10_2
  try clear hfz10_3
  try clear hfz14_0
  try clear hfz14_1
  try clear hfz14_2
  try clear hfz14_3
  obtain ⟨kq, x11_6, rfl, HA, HJ6, BK477, HB⟩ := hcut
  cases kq with
  | zero => exact absurd HA.out (by simp [chargeparklaw33_BillExactly.j0])
  | succ kj6 =>
   have H := HA.out
   clear HA
   simp only [chargeparklaw33_BillExactly.j0] at H
   have HC16 := Aside0.mk H
   clear H
   go_upto_region 4 with (fail)
   go_cut [60] (fun v60 wc => ∃ (kq : Nat) (x60_15 : Bool), v60 = .bool x60_15 ∧ Aside0 (chargeparklaw33_BillExactly.j1 kq a1 a2 a3 t478 x60_15 a0_0 a0_1 a0_2 l0_3 = some r) ∧ Aside0 (kq ≤ kj6) ∧ Aside0 (wc.heap[gb477]? = some (.cells #[.int .i64 a0_0, .int .i64 a0_1, .int .i64 a0_2, (.slice A0_3 l0_3.length c0_3)] 33 (0, 0))) ∧ Aside0 (Below w.heap.size w wc))
   case first =>
    have H := HC16.out
    clear HC16
    by_cases c17 : x11_6 = true
    ·subst c17
     have H1 : (if a1 < 0 then (chargeparklaw33_BillExactly.j1 kj6 a1 a2 a3 t478 true a0_0 a0_1 a0_2 l0_3) else (if a1 > 100000 then (chargeparklaw33_BillExactly.j1 kj6 a1 a2 a3 t478 true a0_0 a0_1 a0_2 l0_3) else (if a2 < 1 then (chargeparklaw33_BillExactly.j1 kj6 a1 a2 a3 t478 true a0_0 a0_1 a0_2 l0_3) else (if a2 > 1440 then (chargeparklaw33_BillExactly.j1 kj6 a1 a2 a3 t478 true a0_0 a0_1 a0_2 l0_3) else (if a3 < 0 then (chargeparklaw33_BillExactly.j1 kj6 a1 a2 a3 t478 true a0_0 a0_1 a0_2 l0_3) else (chargeparklaw33_BillExactly.j1 kj6 a1 a2 a3 t478 (decide (a3 > 1440)) a0_0 a0_1 a0_2 l0_3)))))) = some r := by rw [if_pos rfl] at H; exact H
     clear H
     have H := H1
     clear H1
     by_cases c18 : a1 < 0
     ·rw [if_pos c18] at H
      have c18b0 : decide (a1 < 0) = true := decide_eq_true c18
      clear c18
      (first | rw [c18b0] | (simp only [i64_w, i32_w]; rw [c18b0]) | skip)
      have H' := Aside0.mk H
      clear H
      go_wp2
      go_meet
      case rel => exact ⟨_, (true), (by first | rfl | (simp; done) | (simp [*]; done)), H', ⟨by have := HJ6.out; first | omega | exact Nat.le_refl _⟩, ⟨by (with_reducible repeat (first | refine blk_drewN ?_ _ | refine blk_drew ?_ | refine blk_alloc ?_ _)); exact BK477.out⟩, ⟨by repeat (first | (with_reducible first | exact HB.out | apply below_alloc | apply pw_below_drewN | apply below_drew1 | refine below_set ?_ GE477.out) | exact HB.out)⟩⟩
     ·rw [if_neg c18] at H
      have c18b0 : decide (a1 < 0) = false := decide_eq_false c18
      clear c18
      (first | rw [c18b0] | (simp only [i64_w, i32_w]; rw [c18b0]) | skip)
      by_cases c19 : a1 > 100000
      ·rw [if_pos c19] at H
       have c19b0 : decide (100000 < a1) = true := decide_eq_true c19
       clear c19
       have H' := Aside0.mk H
       clear H
       go_wp2
       go_meet
       case rel => exact ⟨_, (true), (by first | rfl | (simp; done) | (simp [*]; done)), H', ⟨by have := HJ6.out; first | omega | exact Nat.le_refl _⟩, ⟨by (with_reducible repeat (first | refine blk_drewN ?_ _ | refine blk_drew ?_ | refine blk_alloc ?_ _)); exact BK477.out⟩, ⟨by repeat (first | (with_reducible first | exact HB.out | apply below_alloc | apply pw_below_drewN | apply below_drew1 | refine below_set ?_ GE477.out) | exact HB.out)⟩⟩
      ·rw [if_neg c19] at H
       have c19b0 : decide (100000 < a1) = false := decide_eq_false c19
       clear c19
       by_cases c20 : a2 < 1
       ·rw [if_pos c20] at H
        have c20b0 : decide (a2 < 1) = true := decide_eq_true c20
        clear c20
        have H' := Aside0.mk H
        clear H
        go_wp2
        go_meet
        case rel => exact ⟨_, (true), (by first | rfl | (simp; done) | (simp [*]; done)), H', ⟨by have := HJ6.out; first | omega | exact Nat.le_refl _⟩, ⟨by (with_reducible repeat (first | refine blk_drewN ?_ _ | refine blk_drew ?_ | refine blk_alloc ?_ _)); exact BK477.out⟩, ⟨by repeat (first | (with_reducible first | exact HB.out | apply below_alloc | apply pw_below_drewN | apply below_drew1 | refine below_set ?_ GE477.out) | exact HB.out)⟩⟩
       ·rw [if_neg c20] at H
        have c20b0 : decide (a2 < 1) = false := decide_eq_false c20
        clear c20
        by_cases c21 : a2 > 1440
        ·rw [if_pos c21] at H
         have c21b0 : decide (1440 < a2) = true := decide_eq_true c21
         clear c21
         have H' := Aside0.mk H
         clear H
         go_wp2
         go_meet
         case rel => exact ⟨_, (true), (by first | rfl | (simp; done) | (simp [*]; done)), H', ⟨by have := HJ6.out; first | omega | exact Nat.le_refl _⟩, ⟨by (with_reducible repeat (first | refine blk_drewN ?_ _ | refine blk_drew ?_ | refine blk_alloc ?_ _)); exact BK477.out⟩, ⟨by repeat (first | (with_reducible first | exact HB.out | apply below_alloc | apply pw_below_drewN | apply below_drew1 | refine below_set ?_ GE477.out) | exact HB.out)⟩⟩
        ·rw [if_neg c21] at H
         have c21b0 : decide (1440 < a2) = false := decide_eq_false c21
         clear c21
         by_cases c22 : a3 < 0
         ·rw [if_pos c22] at H
          have c22b0 : decide (a3 < 0) = true := decide_eq_true c22
          clear c22
          have H' := Aside0.mk H
          clear H
          go_wp2
          go_meet
          case rel => exact ⟨_, (true), (by first | rfl | (simp; done) | (simp [*]; done)), H', ⟨by have := HJ6.out; first | omega | exact Nat.le_refl _⟩, ⟨by (with_reducible repeat (first | refine blk_drewN ?_ _ | refine blk_drew ?_ | refine blk_alloc ?_ _)); exact BK477.out⟩, ⟨by repeat (first | (with_reducible first | exact HB.out | apply below_alloc | apply pw_below_drewN | apply below_drew1 | refine below_set ?_ GE477.out) | exact HB.out)⟩⟩
         ·rw [if_neg c22] at H
          have c22b0 : decide (a3 < 0) = false := decide_eq_false c22
          clear c22
          have H' := Aside0.mk H
          clear H
          go_wp2
          go_meet
          case rel => exact ⟨_, (decide (a3 > 1440)), (by first | rfl | (simp; done) | (simp [*]; done)), H', ⟨by have := HJ6.out; first | omega | exact Nat.le_refl _⟩, ⟨by (with_reducible repeat (first | refine blk_drewN ?_ _ | refine blk_drew ?_ | refine blk_alloc ?_ _)); exact BK477.out⟩, ⟨by repeat (first | (with_reducible first | exact HB.out | apply below_alloc | apply pw_below_drewN | apply below_drew1 | refine below_set ?_ GE477.out) | exact HB.out)⟩⟩
    ·replace c17 := Bool.eq_false_iff.mpr c17
     subst c17
     have H1 : (chargeparklaw33_BillExactly.j1 kj6 a1 a2 a3 t478 true a0_0 a0_1 a0_2 l0_3) = some r := by rw [if_neg (show ¬ (false = true) by decide)] at H; exact H
     clear H
     have H := H1
     clear H1
     have H' := Aside0.mk H
     clear H
     go_wp2
     go_meet
     case rel => exact ⟨_, (true), (by first | rfl | (simp; done) | (simp [*]; done)), H', ⟨by have := HJ6.out; first | omega | exact Nat.le_refl _⟩, ⟨by (with_reducible repeat (first | refine blk_drewN ?_ _ | refine blk_drew ?_ | refine blk_alloc ?_ _)); exact BK477.out⟩, ⟨by repeat (first | (with_reducible first | exact HB.out | apply below_alloc | apply pw_below_drewN | apply below_drew1 | refine below_set ?_ GE477.out) | exact HB.out)⟩⟩
   case rest =>
    clear HC16
    try clear c1
    try clear c2
    try clear p2
    try clear c6
    try clear c12
    try clear c17
    try clear c18
    try clear c18b0
    try clear c19
    try clear c19b0
    try clear c20
    try clear c20b0
    try clear c21
    try clear c21b0
    try clear c22
    try clear c22b0
    try clear hcz10_0
    try clear hcz10_1
    try clear hcz10_2
    try clear hcz10_3
    try clear hcz14_0
    try clear hcz14_1
    try clear hcz14_2
    try clear hcz14_3
    try clear hfz10_0
    try clear hfz10_1
    try clear hfz10_2
    try clear hfz10_3
    try clear hfz14_0
    try clear hfz14_1
    try clear hfz14_2
    try clear hfz14_3
    try clear p2
    obtain ⟨kq, x60_15, rfl, HA, HJ15, BK477, HB⟩ := hcut
    cases kq with
    | zero => exact absurd HA.out (by simp [chargeparklaw33_BillExactly.j1])
    | succ kj15 =>
     have H := HA.out
     clear HA
     simp only [chargeparklaw33_BillExactly.j1] at H
     by_cases c23 : x60_15 = true
     ·subst c23
      have H1 : (some t478) = some r := by rw [if_pos rfl] at H; exact H
      clear H
      have H := H1
      clear H1
      obtain rfl := Option.some.inj H
      go_wp2
      go_ret
      exact ⟨by first | rfl | (simp [errW_none, errW_some] <;> rfl) | (simp [*, errW_none, errW_some] <;> rfl), by repeat (first | (with_reducible first | exact HB.out | apply below_alloc | apply pw_below_drewN | apply below_drew1 | refine below_set ?_ GE477.out) | exact HB.out)⟩
     ·replace c23 := Bool.eq_false_iff.mpr c23
      subst c23
      have H1 : (chargeparklaw33_BillExactly.l0 kj15 a1 a2 a3 t478 0 0 a0_0 a0_1 a0_2 l0_3 0) = some r := by rw [if_neg (show ¬ (false = true) by decide)] at H; exact H
      clear H
      have H := H1
      clear H1
      have H' := Aside0.mk H
      clear H
      go_wp2_with (first | ((with_reducible refine gate_dst (N := 12) rfl ?_); refine box_event ?hg (N := 12) ?hd (cs := #[.int .i64 0, .slice none 0 0, .slice none 0 0]) (t := 30) ?hr ?_; (case hd => rfl); (case hg => rfl); (case hr => first | (go_simp; done) | (go_simp; rfl)); intro gb481 hg w24 hbox hb; have n0_ := (bb_ BK477 hb); have n1_ := Aside0.mk (below_step (hb_ HB) hb); have n2_ := Aside0.mk (hbox); have n3_ := Aside0.mk ((by rw [hg]; exact (below_size (hb_ HB)) : w.heap.size ≤ gb481)); have n4_ := Aside0.mk ((by rw [hg]; exact (below_size (hb_ HB)) : w.heap.size ≤ gb481)); have n5_ := (nlt_ BK477 hg); have n6_ := (ngt_ BK477 hg); clear BK477; clear HB; have BK477 := n0_; have HB := n1_; have BK481 := n2_; have GW481 := n3_; have GE481 := n4_; have NB477_481 := n5_; have NB481_477 := n6_; clear n0_ n1_ n2_ n3_ n4_ n5_ n6_; clear hb hbox hg))
      go_loopg [13, 14] kj15 (fun kq v13 v14 w' => ∃ (x13_3 : Int) (x14_3 : Int), v13 = .int .i64 x13_3 ∧ v14 = .int .i64 x14_3 ∧ Aside0 (chargeparklaw33_BillExactly.l0 kq a1 a2 a3 t478 x13_3 x14_3 a0_0 a0_1 a0_2 l0_3 0 = some r) ∧ Aside0 (kq ≤ kj15) ∧ Aside0 (w'.heap[gb477]? = some (.cells #[.int .i64 a0_0, .int .i64 a0_1, .int .i64 a0_2, (.slice A0_3 l0_3.length c0_3)] 33 (0, 0))) ∧ Aside0 (w'.heap[gb481]? = some (.cells #[.int .i64 0, (.slice none 0 0), (.slice none 0 0)] 30 (0, 0))) ∧ Aside0 (Below w.heap.size w w'))
      case atStart => exact ⟨(0), (0), (by first | rfl | (simp; done) | (simp [*]; done)), (by first | rfl | (simp; done) | (simp [*]; done)), H', ⟨Nat.le_refl _⟩, ⟨by (with_reducible repeat (first | refine blk_drewN ?_ _ | refine blk_drew ?_ | refine blk_alloc ?_ _)); exact BK477.out⟩, ⟨by (with_reducible repeat (first | refine blk_drewN ?_ _ | refine blk_drew ?_ | refine blk_alloc ?_ _)); exact BK481.out⟩, ⟨by repeat (first | (with_reducible first | exact HB.out | apply below_alloc | apply pw_below_drewN | apply below_drew1 | refine below_set ?_ GE477.out | refine below_set ?_ GE481.out) | exact HB.out)⟩⟩
      case round =>
       clear H'
       try clear c1
       try clear c2
       try clear p2
       try clear c6
       try clear c12
       try clear c17
       try clear c18
       try clear c18b0
       try clear c19
       try clear c19b0
       try clear c20
       try clear c20b0
       try clear c21
       try clear c21b0
       try clear c22
       try clear c22b0
       try clear c23
       try clear hcz10_0
       try clear hcz10_1
       try clear hcz10_2
       try clear hcz10_3
       try clear hcz14_0
       try clear hcz14_1
       try clear hcz14_2
       try clear hcz14_3
       try clear hfz10_0
       try clear hfz10_1
       try clear hfz10_2
       try clear hfz10_3
       try clear hfz14_0
       try clear hfz14_1
       try clear hfz14_2
       try clear hfz14_3
       try clear p2
       obtain ⟨x13_3, x14_3, rfl, rfl, HA, HK3, BK477, BK481, HB⟩ := hrel
       cases gk with
       | zero => exact absurd HA.out (by simp [chargeparklaw33_BillExactly.l0])
       | succ k3 =>
        have H := HA.out
        clear HA
        simp only [chargeparklaw33_BillExactly.l0] at H
        by_cases c25 : x14_3 < (l0_3.length : Int)
        ·rw [if_pos c25] at H
         have c25b0 : decide (x14_3 < (l0_3.length : Int)) = true := decide_eq_true c25
         clear c25
         by_cases c26 : 0 ≤ x14_3
         ·rw [if_pos c26] at H
          have c26b0 : decide (0 ≤ x14_3) = true := decide_eq_true c26
          clear c26
          have H' := Aside0.mk H
          clear H
          have hnb27 := NB477_481.out
          have hnc27 := NB481_477.out
          have hcz28_0 : wr.cell? ⟨gb477, 0, none⟩ = some (.int .i64 a0_0) := bc_ BK477 0
          have hcz28_1 : wr.cell? ⟨gb477, 1, none⟩ = some (.int .i64 a0_1) := bc_ BK477 1
          have hcz28_2 : wr.cell? ⟨gb477, 2, none⟩ = some (.int .i64 a0_2) := bc_ BK477 2
          have hcz28_3 : wr.cell? ⟨gb477, 3, none⟩ = some (.slice A0_3 l0_3.length c0_3) := bc_ BK477 3
          have hfz28_0 := blk_frozen BK477.out 0
          have hfz28_1 := blk_frozen BK477.out 1
          have hfz28_2 := blk_frozen BK477.out 2
          have hfz28_3 := blk_frozen BK477.out 3
          have p482 : 0 ≤ (x14_3 : Int) := of_decide_eq_true (by first | (with_reducible assumption) | assumption)
          have q482 : x14_3 < (l0_3.length : Int) := of_decide_eq_true (by first | (with_reducible assumption) | assumption)
          obtain ⟨ad482, e482, hx482_0, hx482_1⟩ := at_T50 HR0_3.out x14_3 p482 q482
          cases e482
          replace hx482_0 := (HB.out.cell (World.block_lt_of_cell? w _ hx482_0)).trans hx482_0
          replace hx482_1 := (HB.out.cell (World.block_lt_of_cell? w _ hx482_1)).trans hx482_1
          replace p482 := eq_true p482
          replace q482 := eq_true q482
          go_wp2
          go_roundg k3
          case measure => have := HJ6.out; have := HJ15.out; have := HK3.out; omega
          case rel => exact ⟨(wrap64 (x13_3 + ((rd_T50 l0_3 x14_3).f1))), (wrap64 (x14_3 + 1)), (by first | rfl | (simp; done) | (simp [*]; done)), (by first | rfl | (simp; done) | (simp [*]; done)), H', ⟨by have := HJ6.out; have := HJ15.out; have := HK3.out; omega⟩, ⟨by (with_reducible repeat (first | refine blk_drewN ?_ _ | refine blk_drew ?_ | refine blk_alloc ?_ _)); exact BK477.out⟩, ⟨by (with_reducible repeat (first | refine blk_drewN ?_ _ | refine blk_drew ?_ | refine blk_alloc ?_ _)); exact BK481.out⟩, ⟨by repeat (first | (with_reducible first | exact HB.out | apply below_alloc | apply pw_below_drewN | apply below_drew1 | refine below_set ?_ GE477.out | refine below_set ?_ GE481.out) | exact HB.out)⟩⟩
         ·rw [if_neg c26] at H
          exact absurd H (by simp)
        ·rw [if_neg c25] at H
         have c25b0 : decide (x14_3 < (l0_3.length : Int)) = false := decide_eq_false c25
         clear c25
         obtain ⟨ji29, hji29⟩ : ∃ j_ : Int, (mx 0 (wrap64 ((wrap64 (a0_1 - a0_0)) - a3))) = j_ := ⟨_, rfl⟩
         replace H : ((chargeparklaw33_article.f 1 a1 0 0).bind fun bt483 => ((bill_Line.f bt483.1 bt483.2.1 bt483.2.2.1 bt483.2.2.2.1 bt483.2.2.2.2.1 bt483.2.2.2.2.2.1 bt483.2.2.2.2.2.2 0 ([] : List (S99)) ([] : List Int) a0_0 a0_1 a0_2 l0_3).bind fun bt490 => ((chargeparklaw33_article.f 2 a1 0 0).bind fun bt492 => ((bill_Line.f bt492.1 bt492.2.1 bt492.2.2.1 bt492.2.2.2.1 bt492.2.2.2.2.1 bt492.2.2.2.2.2.1 bt492.2.2.2.2.2.2 0 ([] : List (S99)) ([] : List Int) a0_0 a0_1 a0_2 l0_3).bind fun bt499 => ((chargeparklaw33_article.f 3 a1 a2 a3).bind fun bt501 => ((bill_Line.f bt501.1 bt501.2.1 bt501.2.2.1 bt501.2.2.2.1 bt501.2.2.2.2.1 bt501.2.2.2.2.2.1 bt501.2.2.2.2.2.2 0 ([] : List (S99)) ([] : List Int) a0_0 a0_1 a0_2 l0_3).bind fun bt508 => ((chargeparklaw33_article.f 4 a1 a2 a3).bind fun bt510 => ((bill_Line.f bt510.1 bt510.2.1 bt510.2.2.1 bt510.2.2.2.1 bt510.2.2.2.2.1 bt510.2.2.2.2.2.1 bt510.2.2.2.2.2.2 0 ([] : List (S99)) ([] : List Int) a0_0 a0_1 a0_2 l0_3).bind fun bt517 => (if t478 = true then (if bt490.2 = 0 then (if bt499.2 = 0 then (if bt508.2 = 0 then (if bt517.2 = 0 then (if bt490.1 = a1 then (if bt499.1 = (wrap64 (Int.tdiv (wrap64 ((wrap64 (a1 * x13_3)) + 500)) 1000)) then (if a2 = 0 then (none) else (if bt508.1 = (wrap64 (a1 * (wrap64 (Int.tdiv (wrap64 ((wrap64 ((ji29) + a2)) - 1)) a2)))) then (some (bt517.1 == (wrap64 (a1 * (wrap64 (Int.tdiv (wrap64 ((wrap64 ((mx 0 (wrap64 ((wrap64 (a0_1 - a0_2)) - a3))) + a2)) - 1)) a2)))))) else (some false))) else (some false)) else (some false)) else (some false)) else (some false)) else (some false)) else (some false)) else (some false)))))))))) = some r := by first | (rw [hji29] at H; exact H) | (simp only [hji29] at H ⊢; exact H)
         have hji29_ : (if 0 < (wrap64 ((wrap64 (a0_1 - a0_0)) - a3)) then (wrap64 ((wrap64 (a0_1 - a0_0)) - a3)) else 0) = ji29 := hji29
         obtain ⟨ji30, hji30⟩ : ∃ j_ : Int, (mx 0 (wrap64 ((wrap64 (a0_1 - a0_2)) - a3))) = j_ := ⟨_, rfl⟩
         replace H : ((chargeparklaw33_article.f 1 a1 0 0).bind fun bt483 => ((bill_Line.f bt483.1 bt483.2.1 bt483.2.2.1 bt483.2.2.2.1 bt483.2.2.2.2.1 bt483.2.2.2.2.2.1 bt483.2.2.2.2.2.2 0 ([] : List (S99)) ([] : List Int) a0_0 a0_1 a0_2 l0_3).bind fun bt490 => ((chargeparklaw33_article.f 2 a1 0 0).bind fun bt492 => ((bill_Line.f bt492.1 bt492.2.1 bt492.2.2.1 bt492.2.2.2.1 bt492.2.2.2.2.1 bt492.2.2.2.2.2.1 bt492.2.2.2.2.2.2 0 ([] : List (S99)) ([] : List Int) a0_0 a0_1 a0_2 l0_3).bind fun bt499 => ((chargeparklaw33_article.f 3 a1 a2 a3).bind fun bt501 => ((bill_Line.f bt501.1 bt501.2.1 bt501.2.2.1 bt501.2.2.2.1 bt501.2.2.2.2.1 bt501.2.2.2.2.2.1 bt501.2.2.2.2.2.2 0 ([] : List (S99)) ([] : List Int) a0_0 a0_1 a0_2 l0_3).bind fun bt508 => ((chargeparklaw33_article.f 4 a1 a2 a3).bind fun bt510 => ((bill_Line.f bt510.1 bt510.2.1 bt510.2.2.1 bt510.2.2.2.1 bt510.2.2.2.2.1 bt510.2.2.2.2.2.1 bt510.2.2.2.2.2.2 0 ([] : List (S99)) ([] : List Int) a0_0 a0_1 a0_2 l0_3).bind fun bt517 => (if t478 = true then (if bt490.2 = 0 then (if bt499.2 = 0 then (if bt508.2 = 0 then (if bt517.2 = 0 then (if bt490.1 = a1 then (if bt499.1 = (wrap64 (Int.tdiv (wrap64 ((wrap64 (a1 * x13_3)) + 500)) 1000)) then (if a2 = 0 then (none) else (if bt508.1 = (wrap64 (a1 * (wrap64 (Int.tdiv (wrap64 ((wrap64 ((ji29) + a2)) - 1)) a2)))) then (some (bt517.1 == (wrap64 (a1 * (wrap64 (Int.tdiv (wrap64 ((wrap64 ((ji30) + a2)) - 1)) a2)))))) else (some false))) else (some false)) else (some false)) else (some false)) else (some false)) else (some false)) else (some false)) else (some false)))))))))) = some r := by first | (rw [hji30] at H; exact H) | (simp only [hji30] at H ⊢; exact H)
         have hji30_ : (if 0 < (wrap64 ((wrap64 (a0_1 - a0_2)) - a3)) then (wrap64 ((wrap64 (a0_1 - a0_2)) - a3)) else 0) = ji30 := hji30
         replace H := Option.bind_eq_some_iff.mp H
         obtain ⟨⟨t483, t484, t485, t486, t487, t488, t489⟩, A310, H⟩ := H
         have A31 := Aside0.mk A310
         clear A310
         replace H := Option.bind_eq_some_iff.mp H
         obtain ⟨⟨t490, t491⟩, A320, H⟩ := H
         have A32 := Aside0.mk A320
         clear A320
         replace H := Option.bind_eq_some_iff.mp H
         obtain ⟨⟨t492, t493, t494, t495, t496, t497, t498⟩, A330, H⟩ := H
         have A33 := Aside0.mk A330
         clear A330
         replace H := Option.bind_eq_some_iff.mp H
         obtain ⟨⟨t499, t500⟩, A340, H⟩ := H
         have A34 := Aside0.mk A340
         clear A340
         replace H := Option.bind_eq_some_iff.mp H
         obtain ⟨⟨t501, t502, t503, t504, t505, t506, t507⟩, A350, H⟩ := H
         have A35 := Aside0.mk A350
         clear A350
         replace H := Option.bind_eq_some_iff.mp H
         obtain ⟨⟨t508, t509⟩, A360, H⟩ := H
         have A36 := Aside0.mk A360
         clear A360
         replace H := Option.bind_eq_some_iff.mp H
         obtain ⟨⟨t510, t511, t512, t513, t514, t515, t516⟩, A370, H⟩ := H
         have A37 := Aside0.mk A370
         clear A370
         replace H := Option.bind_eq_some_iff.mp H
         obtain ⟨⟨t517, t518⟩, A380, H⟩ := H
         replace H : (if t478 = true then (if t491 = 0 then (if t500 = 0 then (if t509 = 0 then (if t518 = 0 then (if t490 = a1 then (if t499 = (wrap64 (Int.tdiv (wrap64 ((wrap64 (a1 * x13_3)) + 500)) 1000)) then (if a2 = 0 then (none) else (if t508 = (wrap64 (a1 * (wrap64 (Int.tdiv (wrap64 ((wrap64 ((ji29) + a2)) - 1)) a2)))) then (some (t517 == (wrap64 (a1 * (wrap64 (Int.tdiv (wrap64 ((wrap64 ((ji30) + a2)) - 1)) a2)))))) else (some false))) else (some false)) else (some false)) else (some false)) else (some false)) else (some false)) else (some false)) else (some false)) = some r := H
         have A38 := Aside0.mk A380
         clear A380
         by_cases c39 : t478 = true
         ·subst c39
          have H1 : (if t491 = 0 then (if t500 = 0 then (if t509 = 0 then (if t518 = 0 then (if t490 = a1 then (if t499 = (wrap64 (Int.tdiv (wrap64 ((wrap64 (a1 * x13_3)) + 500)) 1000)) then (if a2 = 0 then (none) else (if t508 = (wrap64 (a1 * (wrap64 (Int.tdiv (wrap64 ((wrap64 ((ji29) + a2)) - 1)) a2)))) then (some (t517 == (wrap64 (a1 * (wrap64 (Int.tdiv (wrap64 ((wrap64 ((ji30) + a2)) - 1)) a2)))))) else (some false))) else (some false)) else (some false)) else (some false)) else (some false)) else (some false)) else (some false)) = some r := by rw [if_pos rfl] at H; exact H
          clear H
          have H := H1
          clear H1
          by_cases c40 : t491 = 0
          ·rw [if_pos c40] at H
           have c40b0 : (t491 == 0) = true := beq_iff_eq.mpr c40
           have c40b1 : (t491 != 0) = false := bne_eq_false_iff_eq.mpr c40
           clear c40
           by_cases c41 : t500 = 0
           ·rw [if_pos c41] at H
            have c41b0 : (t500 == 0) = true := beq_iff_eq.mpr c41
            have c41b1 : (t500 != 0) = false := bne_eq_false_iff_eq.mpr c41
            clear c41
            by_cases c42 : t509 = 0
            ·rw [if_pos c42] at H
             have c42b0 : (t509 == 0) = true := beq_iff_eq.mpr c42
             have c42b1 : (t509 != 0) = false := bne_eq_false_iff_eq.mpr c42
             clear c42
             by_cases c43 : t518 = 0
             ·rw [if_pos c43] at H
              have c43b0 : (t518 == 0) = true := beq_iff_eq.mpr c43
              have c43b1 : (t518 != 0) = false := bne_eq_false_iff_eq.mpr c43
              clear c43
              by_cases c44 : t490 = a1
              ·rw [if_pos c44] at H
               have c44b0 : (t490 == a1) = true := beq_iff_eq.mpr c44
               have c44b1 : (t490 != a1) = false := bne_eq_false_iff_eq.mpr c44
               clear c44
               by_cases c45 : t499 = (wrap64 (Int.tdiv (wrap64 ((wrap64 (a1 * x13_3)) + 500)) 1000))
               ·rw [if_pos c45] at H
                have c45b0 : (t499 == (wrap64 (Int.tdiv (wrap64 ((wrap64 (a1 * x13_3)) + 500)) 1000))) = true := beq_iff_eq.mpr c45
                have c45b1 : (t499 != (wrap64 (Int.tdiv (wrap64 ((wrap64 (a1 * x13_3)) + 500)) 1000))) = false := bne_eq_false_iff_eq.mpr c45
                clear c45
                by_cases c46 : a2 = 0
                ·rw [if_pos c46] at H
                 exact absurd H (by simp)
                ·rw [if_neg c46] at H
                 have c46b0 : (a2 == 0) = false := beq_eq_false_iff_ne.mpr c46
                 have c46b1 : (a2 != 0) = true := bne_iff_ne.mpr c46
                 by_cases c47 : t508 = (wrap64 (a1 * (wrap64 (Int.tdiv (wrap64 ((wrap64 ((ji29) + a2)) - 1)) a2))))
                 ·rw [if_pos c47] at H
                  have c47b0 : (t508 == (wrap64 (a1 * (wrap64 (Int.tdiv (wrap64 ((wrap64 ((ji29) + a2)) - 1)) a2))))) = true := beq_iff_eq.mpr c47
                  have c47b1 : (t508 != (wrap64 (a1 * (wrap64 (Int.tdiv (wrap64 ((wrap64 ((ji29) + a2)) - 1)) a2))))) = false := bne_eq_false_iff_eq.mpr c47
                  clear c47
                  obtain rfl := Option.some.inj H
                  have hnb48 := NB477_481.out
                  have hnc48 := NB481_477.out
                  have hcz49_0 : wr.cell? ⟨gb477, 0, none⟩ = some (.int .i64 a0_0) := bc_ BK477 0
                  have hcz49_1 : wr.cell? ⟨gb477, 1, none⟩ = some (.int .i64 a0_1) := bc_ BK477 1
                  have hcz49_2 : wr.cell? ⟨gb477, 2, none⟩ = some (.int .i64 a0_2) := bc_ BK477 2
                  have hcz49_3 : wr.cell? ⟨gb477, 3, none⟩ = some (.slice A0_3 l0_3.length c0_3) := bc_ BK477 3
                  have hfz49_0 := blk_frozen BK477.out 0
                  have hfz49_1 := blk_frozen BK477.out 1
                  have hfz49_2 := blk_frozen BK477.out 2
                  have hfz49_3 := blk_frozen BK477.out 3
                  try go_wp2
                  have n0_ := Aside0.mk (blk_drew BK477.out)
                  have n1_ := Aside0.mk (blk_drew BK481.out)
                  have n2_ := Aside0.mk (below_drew1 HB.out)
                  clear BK477
                  clear BK481
                  clear HB
                  have BK477 := n0_
                  have BK481 := n1_
                  have HB := n2_
                  clear n0_ n1_ n2_
                  refine start_ (n := 10) (S := fun w' => w'.cell? ⟨gb481, 0, none⟩ = some (.int .i64 0) ∧ w'.cell? ⟨gb481, 1, none⟩ = some (.slice none 0 0) ∧ w'.cell? ⟨gb481, 2, none⟩ = some (.slice none 0 0) ∧ w'.cell? ⟨gb477, 0, none⟩ = some (.int .i64 a0_0) ∧ w'.cell? ⟨gb477, 1, none⟩ = some (.int .i64 a0_1) ∧ w'.cell? ⟨gb477, 2, none⟩ = some (.int .i64 a0_2) ∧ w'.cell? ⟨gb477, 3, none⟩ = some (.slice A0_3 l0_3.length c0_3)) (ds := []) #[false, false, false, false, false, false, false, false, false, false] (by kernel_rfl) rfl rfl ⟨bc_ BK481 0, bc_ BK481 1, bc_ BK481 2, bc_ BK477 0, bc_ BK477 1, bc_ BK477 2, bc_ BK477 3⟩ (fun hHeld => ?_); refine with_tabW chargeparklaw33_BillExactly.tab14 chargeparklaw33_BillExactly.bits14 (fun HT_ HW_ => ?_)
                  generalize wr.drew = w50 at BK477 BK481 HB hHeld ⊢
                  refine pure_ (i := 0) (N := some 94) (v := ?_) (a' := ?_) #[true, false, false, false, false, false, false, false, false, false] rfl rfl (any_of HT_.out (by kernel_rfl)) (fun _ _ _ h => h) (Or.inl ⟨by rfl, ?_⟩) ?_ ?_
                  rotate_left
                  ·intro w'
                   go_simp
                   with_reducible rfl
                  rotate_left
                  ·simp only [Act.put, List.setIfInBounds_toArray, List.set_cons_zero, List.set_cons_succ, i64_w, i32_w]
                   rfl
                  refine take_ (i := 2) (N := some 96) (v := ?_) (a' := ?_) #[true, false, true, false, false, false, false, false, false, false] rfl rfl (take_ofW HT_.out HW_.out (by kernel_rfl)) (fun _ _ _ h => h) (Or.inl ⟨by rfl, ?_⟩) hHeld ?_ ?_
                  rotate_left
                  ·rintro w' ⟨s0, s1, s2, s3, s4, s5, s6⟩
                   go_simp
                   with_reducible rfl
                  rotate_left
                  ·simp only [Act.put, List.setIfInBounds_toArray, List.set_cons_zero, List.set_cons_succ, i64_w, i32_w]
                   rfl
                  refine take_ (i := 3) (N := some 97) (v := ?_) (a' := ?_) #[true, false, true, true, false, false, false, false, false, false] rfl rfl (take_ofW HT_.out HW_.out (by kernel_rfl)) (fun _ _ _ h => h) (Or.inl ⟨by rfl, ?_⟩) hHeld ?_ ?_
                  rotate_left
                  ·rintro w' ⟨s0, s1, s2, s3, s4, s5, s6⟩
                   go_simp
                   with_reducible rfl
                  rotate_left
                  ·simp only [Act.put, List.setIfInBounds_toArray, List.set_cons_zero, List.set_cons_succ, i64_w, i32_w]
                   rfl
                  refine one_ (i := 1) (N := some 95) #[true, true, true, true, false, false, false, false, false, false] rfl rfl (one_of HT_.out (by kernel_rfl)) (by decide) (fun K hK => ?_)
                  refine goes_ Try.func35 (by kernel_rfl) rfl #[.int .i64 1, .int .i64 a1, .int .i64 0, .int .i64 0] (by rfl) rfl rfl mp_ ?_
                  with_reducible refine (chargeparklaw33_article.calls 1 a1 0 0 t483 t484 t485 t486 t487 t488 t489 _ A31.out).mono ?_
                  rintro e w51 ⟨rfl, hb⟩
                  refine ⟨_, rfl, ?_⟩
                  have n0_ := (bb_ BK477 hb)
                  have n1_ := (bb_ BK481 hb)
                  have n2_ := Aside0.mk (below_step (hb_ HB) hb)
                  clear BK477
                  clear BK481
                  clear HB
                  have BK477 := n0_
                  have BK481 := n1_
                  have HB := n2_
                  clear n0_ n1_ n2_
                  (try clear hb)
                  (try clear hb2)
                  (try clear hk)
                  (try clear hi)
                  refine hK.out _ _ ⟨bc_ BK481 0, bc_ BK481 1, bc_ BK481 2, bc_ BK477 0, bc_ BK477 1, bc_ BK477 2, bc_ BK477 3⟩ (fun hHeld => ?_)
                  clear hK K
                  refine norm_ (a' := ?_) ?_ ?_
                  rotate_left
                  ·show Act.put _ (some 95) _ = _
                   simp only [Act.put, List.setIfInBounds_toArray, List.set_cons_zero, List.set_cons_succ, i64_w, i32_w]
                   rfl
                  refine one_ (i := 4) (N := some 98) #[true, true, true, true, true, false, false, false, false, false] rfl rfl (one_of HT_.out (by kernel_rfl)) (by decide) (fun K hK => ?_)
                  refine goes_ Try.func29 (by kernel_rfl) rfl #[.agg #[.int .i64 t483, .int .i64 t484, .int .i64 t485, .int .i64 t486, .int .i64 t487, .int .i64 t488, .int .i64 t489], .agg #[.int .i64 0, .slice none 0 0, .slice none 0 0], .agg #[.int .i64 a0_0, .int .i64 a0_1, .int .i64 a0_2, .slice A0_3 l0_3.length c0_3]] (by rfl) rfl rfl mp_ ?_
                  refine (bill_Line.calls t483 t484 t485 t486 t487 t488 t489 0 _ _ ([] : List (S99)) _ _ ([] : List Int) a0_0 a0_1 a0_2 _ _ l0_3 t490 t491 _ ?side1 ?side2 ?side3 ?side4 ?side5 ?side6 A32.out).mono ?_
                  (case side1 => exact Kd.C_nil _ _)
                  (case side2 => exact Nat.le_refl _)
                  (case side3 => exact Kd.C_nil _ _)
                  (case side4 => exact Nat.le_refl _)
                  (case side5 => repeat (first | exact (Kd.C_below HR0_3.out HB.out) | (with_reducible refine Kd.C_alloc ?_ _) | (with_reducible refine Kd.C_drewN ?_ _) | (with_reducible refine Kd.C_drew ?_)))
                  (case side6 => exact HC0_3.out)
                  rintro e w52 ⟨rfl, hb⟩
                  refine ⟨_, rfl, ?_⟩
                  have n0_ := (bb_ BK477 hb)
                  have n1_ := (bb_ BK481 hb)
                  have n2_ := Aside0.mk (below_step (hb_ HB) hb)
                  clear BK477
                  clear BK481
                  clear HB
                  have BK477 := n0_
                  have BK481 := n1_
                  have HB := n2_
                  clear n0_ n1_ n2_
                  (try clear hb)
                  (try clear hb2)
                  (try clear hk)
                  (try clear hi)
                  refine hK.out _ _ ⟨bc_ BK481 0, bc_ BK481 1, bc_ BK481 2, bc_ BK477 0, bc_ BK477 1, bc_ BK477 2, bc_ BK477 3⟩ (fun hHeld => ?_)
                  clear hK K
                  refine norm_ (a' := ?_) ?_ ?_
                  rotate_left
                  ·show Act.put _ (some 98) _ = _
                   simp only [Act.put, List.setIfInBounds_toArray, List.set_cons_zero, List.set_cons_succ, i64_w, i32_w]
                   rfl
                  refine pure_ (i := 5) (N := some 93) (v := ?_) (a' := ?_) #[true, true, true, true, true, true, false, false, false, false] rfl rfl (any_of HT_.out (by kernel_rfl)) (fun _ _ _ h => h) (Or.inl ⟨by rfl, ?_⟩) ?_ ?_
                  rotate_left
                  ·intro w'
                   go_simp
                   with_reducible rfl
                  rotate_left
                  ·simp only [Act.put, List.setIfInBounds_toArray, List.set_cons_zero, List.set_cons_succ, i64_w, i32_w]
                   rfl
                  refine pure_ (i := 6) (N := some 99) (v := ?_) (a' := ?_) #[true, true, true, true, true, true, true, false, false, false] rfl rfl (any_of HT_.out (by kernel_rfl)) (fun _ _ _ h => h) (Or.inl ⟨by rfl, ?_⟩) ?_ ?_
                  rotate_left
                  ·intro w'
                   go_simp
                   with_reducible rfl
                  rotate_left
                  ·simp only [Act.put, List.setIfInBounds_toArray, List.set_cons_zero, List.set_cons_succ, i64_w, i32_w]
                   rfl
                  refine pure_ (i := 7) (N := some 100) (v := ?_) (a' := ?_) #[true, true, true, true, true, true, true, true, false, false] rfl rfl (any_of HT_.out (by kernel_rfl)) (fun _ _ _ h => h) (Or.inl ⟨by rfl, ?_⟩) ?_ ?_
                  rotate_left
                  ·intro w'
                   go_simp
                   with_reducible rfl
                  rotate_left
                  ·simp only [Act.put, List.setIfInBounds_toArray, List.set_cons_zero, List.set_cons_succ, i64_w, i32_w]
                   rfl
                  refine pure_ (i := 8) (N := some 17) (v := ?_) (a' := ?_) #[true, true, true, true, true, true, true, true, true, false] rfl rfl (any_of HT_.out (by kernel_rfl)) (fun _ _ _ h => h) (Or.inl ⟨by rfl, ?_⟩) ?_ ?_
                  rotate_left
                  ·intro w'
                   go_simp
                   with_reducible rfl
                  rotate_left
                  ·simp only [Act.put, List.setIfInBounds_toArray, List.set_cons_zero, List.set_cons_succ, i64_w, i32_w]
                   rfl
                  refine pure_ (i := 9) (N := some 18) (v := ?_) (a' := ?_) #[true, true, true, true, true, true, true, true, true, true] rfl rfl (any_of HT_.out (by kernel_rfl)) (fun _ _ _ h => h) (Or.inl ⟨by rfl, ?_⟩) ?_ ?_
                  rotate_left
                  ·intro w'
                   go_simp
                   with_reducible rfl
                  rotate_left
                  ·simp only [Act.put, List.setIfInBounds_toArray, List.set_cons_zero, List.set_cons_succ, i64_w, i32_w]
                   rfl
                  refine done_ (done_of HT_.out (by kernel_rfl)) ?_
                  try go_wp2
                  have n0_ := Aside0.mk (blk_drew BK477.out)
                  have n1_ := Aside0.mk (blk_drew BK481.out)
                  have n2_ := Aside0.mk (below_drew1 HB.out)
                  clear BK477
                  clear BK481
                  clear HB
                  have BK477 := n0_
                  have BK481 := n1_
                  have HB := n2_
                  clear n0_ n1_ n2_
                  refine start_ (n := 10) (S := fun w' => w'.cell? ⟨gb481, 0, none⟩ = some (.int .i64 0) ∧ w'.cell? ⟨gb481, 1, none⟩ = some (.slice none 0 0) ∧ w'.cell? ⟨gb481, 2, none⟩ = some (.slice none 0 0) ∧ w'.cell? ⟨gb477, 0, none⟩ = some (.int .i64 a0_0) ∧ w'.cell? ⟨gb477, 1, none⟩ = some (.int .i64 a0_1) ∧ w'.cell? ⟨gb477, 2, none⟩ = some (.int .i64 a0_2) ∧ w'.cell? ⟨gb477, 3, none⟩ = some (.slice A0_3 l0_3.length c0_3)) (ds := []) #[false, false, false, false, false, false, false, false, false, false] (by kernel_rfl) rfl rfl ⟨bc_ BK481 0, bc_ BK481 1, bc_ BK481 2, bc_ BK477 0, bc_ BK477 1, bc_ BK477 2, bc_ BK477 3⟩ (fun hHeld => ?_); refine with_tabW chargeparklaw33_BillExactly.tab15 chargeparklaw33_BillExactly.bits15 (fun HT_ HW_ => ?_)
                  generalize w52.drew = w53 at BK477 BK481 HB hHeld ⊢
                  refine pure_ (i := 0) (N := some 102) (v := ?_) (a' := ?_) #[true, false, false, false, false, false, false, false, false, false] rfl rfl (any_of HT_.out (by kernel_rfl)) (fun _ _ _ h => h) (Or.inl ⟨by rfl, ?_⟩) ?_ ?_
                  rotate_left
                  ·intro w'
                   go_simp
                   with_reducible rfl
                  rotate_left
                  ·simp only [Act.put, List.setIfInBounds_toArray, List.set_cons_zero, List.set_cons_succ, i64_w, i32_w]
                   rfl
                  refine take_ (i := 2) (N := some 104) (v := ?_) (a' := ?_) #[true, false, true, false, false, false, false, false, false, false] rfl rfl (take_ofW HT_.out HW_.out (by kernel_rfl)) (fun _ _ _ h => h) (Or.inl ⟨by rfl, ?_⟩) hHeld ?_ ?_
                  rotate_left
                  ·rintro w' ⟨s0, s1, s2, s3, s4, s5, s6⟩
                   go_simp
                   with_reducible rfl
                  rotate_left
                  ·simp only [Act.put, List.setIfInBounds_toArray, List.set_cons_zero, List.set_cons_succ, i64_w, i32_w]
                   rfl
                  refine take_ (i := 3) (N := some 105) (v := ?_) (a' := ?_) #[true, false, true, true, false, false, false, false, false, false] rfl rfl (take_ofW HT_.out HW_.out (by kernel_rfl)) (fun _ _ _ h => h) (Or.inl ⟨by rfl, ?_⟩) hHeld ?_ ?_
                  rotate_left
                  ·rintro w' ⟨s0, s1, s2, s3, s4, s5, s6⟩
                   go_simp
                   with_reducible rfl
                  rotate_left
                  ·simp only [Act.put, List.setIfInBounds_toArray, List.set_cons_zero, List.set_cons_succ, i64_w, i32_w]
                   rfl
                  refine one_ (i := 1) (N := some 103) #[true, true, true, true, false, false, false, false, false, false] rfl rfl (one_of HT_.out (by kernel_rfl)) (by decide) (fun K hK => ?_)
                  refine goes_ Try.func35 (by kernel_rfl) rfl #[.int .i64 2, .int .i64 a1, .int .i64 0, .int .i64 0] (by rfl) rfl rfl mp_ ?_
                  with_reducible refine (chargeparklaw33_article.calls 2 a1 0 0 t492 t493 t494 t495 t496 t497 t498 _ A33.out).mono ?_
                  rintro e w54 ⟨rfl, hb⟩
                  refine ⟨_, rfl, ?_⟩
                  have n0_ := (bb_ BK477 hb)
                  have n1_ := (bb_ BK481 hb)
                  have n2_ := Aside0.mk (below_step (hb_ HB) hb)
                  clear BK477
                  clear BK481
                  clear HB
                  have BK477 := n0_
                  have BK481 := n1_
                  have HB := n2_
                  clear n0_ n1_ n2_
                  (try clear hb)
                  (try clear hb2)
                  (try clear hk)
                  (try clear hi)
                  refine hK.out _ _ ⟨bc_ BK481 0, bc_ BK481 1, bc_ BK481 2, bc_ BK477 0, bc_ BK477 1, bc_ BK477 2, bc_ BK477 3⟩ (fun hHeld => ?_)
                  clear hK K
                  refine norm_ (a' := ?_) ?_ ?_
                  rotate_left
                  ·show Act.put _ (some 103) _ = _
                   simp only [Act.put, List.setIfInBounds_toArray, List.set_cons_zero, List.set_cons_succ, i64_w, i32_w]
                   rfl
                  refine one_ (i := 4) (N := some 106) #[true, true, true, true, true, false, false, false, false, false] rfl rfl (one_of HT_.out (by kernel_rfl)) (by decide) (fun K hK => ?_)
                  refine goes_ Try.func29 (by kernel_rfl) rfl #[.agg #[.int .i64 t492, .int .i64 t493, .int .i64 t494, .int .i64 t495, .int .i64 t496, .int .i64 t497, .int .i64 t498], .agg #[.int .i64 0, .slice none 0 0, .slice none 0 0], .agg #[.int .i64 a0_0, .int .i64 a0_1, .int .i64 a0_2, .slice A0_3 l0_3.length c0_3]] (by rfl) rfl rfl mp_ ?_
                  refine (bill_Line.calls t492 t493 t494 t495 t496 t497 t498 0 _ _ ([] : List (S99)) _ _ ([] : List Int) a0_0 a0_1 a0_2 _ _ l0_3 t499 t500 _ ?side1 ?side2 ?side3 ?side4 ?side5 ?side6 A34.out).mono ?_
                  (case side1 => exact Kd.C_nil _ _)
                  (case side2 => exact Nat.le_refl _)
                  (case side3 => exact Kd.C_nil _ _)
                  (case side4 => exact Nat.le_refl _)
                  (case side5 => repeat (first | exact (Kd.C_below HR0_3.out HB.out) | (with_reducible refine Kd.C_alloc ?_ _) | (with_reducible refine Kd.C_drewN ?_ _) | (with_reducible refine Kd.C_drew ?_)))
                  (case side6 => exact HC0_3.out)
                  rintro e w55 ⟨rfl, hb⟩
                  refine ⟨_, rfl, ?_⟩
                  have n0_ := (bb_ BK477 hb)
                  have n1_ := (bb_ BK481 hb)
                  have n2_ := Aside0.mk (below_step (hb_ HB) hb)
                  clear BK477
                  clear BK481
                  clear HB
                  have BK477 := n0_
                  have BK481 := n1_
                  have HB := n2_
                  clear n0_ n1_ n2_
                  (try clear hb)
                  (try clear hb2)
                  (try clear hk)
                  (try clear hi)
                  refine hK.out _ _ ⟨bc_ BK481 0, bc_ BK481 1, bc_ BK481 2, bc_ BK477 0, bc_ BK477 1, bc_ BK477 2, bc_ BK477 3⟩ (fun hHeld => ?_)
                  clear hK K
                  refine norm_ (a' := ?_) ?_ ?_
                  rotate_left
                  ·show Act.put _ (some 106) _ = _
                   simp only [Act.put, List.setIfInBounds_toArray, List.set_cons_zero, List.set_cons_succ, i64_w, i32_w]
                   rfl
                  refine pure_ (i := 5) (N := some 101) (v := ?_) (a' := ?_) #[true, true, true, true, true, true, false, false, false, false] rfl rfl (any_of HT_.out (by kernel_rfl)) (fun _ _ _ h => h) (Or.inl ⟨by rfl, ?_⟩) ?_ ?_
                  rotate_left
                  ·intro w'
                   go_simp
                   with_reducible rfl
                  rotate_left
                  ·simp only [Act.put, List.setIfInBounds_toArray, List.set_cons_zero, List.set_cons_succ, i64_w, i32_w]
                   rfl
                  refine pure_ (i := 6) (N := some 107) (v := ?_) (a' := ?_) #[true, true, true, true, true, true, true, false, false, false] rfl rfl (any_of HT_.out (by kernel_rfl)) (fun _ _ _ h => h) (Or.inl ⟨by rfl, ?_⟩) ?_ ?_
                  rotate_left
                  ·intro w'
                   go_simp
                   with_reducible rfl
                  rotate_left
                  ·simp only [Act.put, List.setIfInBounds_toArray, List.set_cons_zero, List.set_cons_succ, i64_w, i32_w]
                   rfl
                  refine pure_ (i := 7) (N := some 108) (v := ?_) (a' := ?_) #[true, true, true, true, true, true, true, true, false, false] rfl rfl (any_of HT_.out (by kernel_rfl)) (fun _ _ _ h => h) (Or.inl ⟨by rfl, ?_⟩) ?_ ?_
                  rotate_left
                  ·intro w'
                   go_simp
                   with_reducible rfl
                  rotate_left
                  ·simp only [Act.put, List.setIfInBounds_toArray, List.set_cons_zero, List.set_cons_succ, i64_w, i32_w]
                   rfl
                  refine pure_ (i := 8) (N := some 19) (v := ?_) (a' := ?_) #[true, true, true, true, true, true, true, true, true, false] rfl rfl (any_of HT_.out (by kernel_rfl)) (fun _ _ _ h => h) (Or.inl ⟨by rfl, ?_⟩) ?_ ?_
                  rotate_left
                  ·intro w'
                   go_simp
                   with_reducible rfl
                  rotate_left
                  ·simp only [Act.put, List.setIfInBounds_toArray, List.set_cons_zero, List.set_cons_succ, i64_w, i32_w]
                   rfl
                  refine pure_ (i := 9) (N := some 20) (v := ?_) (a' := ?_) #[true, true, true, true, true, true, true, true, true, true] rfl rfl (any_of HT_.out (by kernel_rfl)) (fun _ _ _ h => h) (Or.inl ⟨by rfl, ?_⟩) ?_ ?_
                  rotate_left
                  ·intro w'
                   go_simp
                   with_reducible rfl
                  rotate_left
                  ·simp only [Act.put, List.setIfInBounds_toArray, List.set_cons_zero, List.set_cons_succ, i64_w, i32_w]
                   rfl
                  refine done_ (done_of HT_.out (by kernel_rfl)) ?_
                  try go_wp2
                  have n0_ := Aside0.mk (blk_drew BK477.out)
                  have n1_ := Aside0.mk (blk_drew BK481.out)
                  have n2_ := Aside0.mk (below_drew1 HB.out)
                  clear BK477
                  clear BK481
                  clear HB
                  have BK477 := n0_
                  have BK481 := n1_
                  have HB := n2_
                  clear n0_ n1_ n2_
                  refine start_ (n := 12) (S := fun w' => w'.cell? ⟨gb481, 0, none⟩ = some (.int .i64 0) ∧ w'.cell? ⟨gb481, 1, none⟩ = some (.slice none 0 0) ∧ w'.cell? ⟨gb481, 2, none⟩ = some (.slice none 0 0) ∧ w'.cell? ⟨gb477, 0, none⟩ = some (.int .i64 a0_0) ∧ w'.cell? ⟨gb477, 1, none⟩ = some (.int .i64 a0_1) ∧ w'.cell? ⟨gb477, 2, none⟩ = some (.int .i64 a0_2) ∧ w'.cell? ⟨gb477, 3, none⟩ = some (.slice A0_3 l0_3.length c0_3)) (ds := []) #[false, false, false, false, false, false, false, false, false, false, false, false] (by kernel_rfl) rfl rfl ⟨bc_ BK481 0, bc_ BK481 1, bc_ BK481 2, bc_ BK477 0, bc_ BK477 1, bc_ BK477 2, bc_ BK477 3⟩ (fun hHeld => ?_); refine with_tabW chargeparklaw33_BillExactly.tab16 chargeparklaw33_BillExactly.bits16 (fun HT_ HW_ => ?_)
                  generalize w55.drew = w56 at BK477 BK481 HB hHeld ⊢
                  refine pure_ (i := 0) (N := some 110) (v := ?_) (a' := ?_) #[true, false, false, false, false, false, false, false, false, false, false, false] rfl rfl (any_of HT_.out (by kernel_rfl)) (fun _ _ _ h => h) (Or.inl ⟨by rfl, ?_⟩) ?_ ?_
                  rotate_left
                  ·intro w'
                   go_simp
                   with_reducible rfl
                  rotate_left
                  ·simp only [Act.put, List.setIfInBounds_toArray, List.set_cons_zero, List.set_cons_succ, i64_w, i32_w]
                   rfl
                  refine pure_ (i := 1) (N := some 111) (v := ?_) (a' := ?_) #[true, true, false, false, false, false, false, false, false, false, false, false] rfl rfl (any_of HT_.out (by kernel_rfl)) (fun _ _ _ h => h) (Or.inl ⟨by rfl, ?_⟩) ?_ ?_
                  rotate_left
                  ·intro w'
                   go_simp
                   with_reducible rfl
                  rotate_left
                  ·simp only [Act.put, List.setIfInBounds_toArray, List.set_cons_zero, List.set_cons_succ, i64_w, i32_w]
                   rfl
                  refine pure_ (i := 2) (N := some 112) (v := ?_) (a' := ?_) #[true, true, true, false, false, false, false, false, false, false, false, false] rfl rfl (any_of HT_.out (by kernel_rfl)) (fun _ _ _ h => h) (Or.inl ⟨by rfl, ?_⟩) ?_ ?_
                  rotate_left
                  ·intro w'
                   go_simp
                   with_reducible rfl
                  rotate_left
                  ·simp only [Act.put, List.setIfInBounds_toArray, List.set_cons_zero, List.set_cons_succ, i64_w, i32_w]
                   rfl
                  refine take_ (i := 4) (N := some 114) (v := ?_) (a' := ?_) #[true, true, true, false, true, false, false, false, false, false, false, false] rfl rfl (take_ofW HT_.out HW_.out (by kernel_rfl)) (fun _ _ _ h => h) (Or.inl ⟨by rfl, ?_⟩) hHeld ?_ ?_
                  rotate_left
                  ·rintro w' ⟨s0, s1, s2, s3, s4, s5, s6⟩
                   go_simp
                   with_reducible rfl
                  rotate_left
                  ·simp only [Act.put, List.setIfInBounds_toArray, List.set_cons_zero, List.set_cons_succ, i64_w, i32_w]
                   rfl
                  refine take_ (i := 5) (N := some 115) (v := ?_) (a' := ?_) #[true, true, true, false, true, true, false, false, false, false, false, false] rfl rfl (take_ofW HT_.out HW_.out (by kernel_rfl)) (fun _ _ _ h => h) (Or.inl ⟨by rfl, ?_⟩) hHeld ?_ ?_
                  rotate_left
                  ·rintro w' ⟨s0, s1, s2, s3, s4, s5, s6⟩
                   go_simp
                   with_reducible rfl
                  rotate_left
                  ·simp only [Act.put, List.setIfInBounds_toArray, List.set_cons_zero, List.set_cons_succ, i64_w, i32_w]
                   rfl
                  refine one_ (i := 3) (N := some 113) #[true, true, true, true, true, true, false, false, false, false, false, false] rfl rfl (one_of HT_.out (by kernel_rfl)) (by decide) (fun K hK => ?_)
                  refine goes_ Try.func35 (by kernel_rfl) rfl #[.int .i64 3, .int .i64 a1, .int .i64 a2, .int .i64 a3] (by rfl) rfl rfl mp_ ?_
                  with_reducible refine (chargeparklaw33_article.calls 3 a1 a2 a3 t501 t502 t503 t504 t505 t506 t507 _ A35.out).mono ?_
                  rintro e w57 ⟨rfl, hb⟩
                  refine ⟨_, rfl, ?_⟩
                  have n0_ := (bb_ BK477 hb)
                  have n1_ := (bb_ BK481 hb)
                  have n2_ := Aside0.mk (below_step (hb_ HB) hb)
                  clear BK477
                  clear BK481
                  clear HB
                  have BK477 := n0_
                  have BK481 := n1_
                  have HB := n2_
                  clear n0_ n1_ n2_
                  (try clear hb)
                  (try clear hb2)
                  (try clear hk)
                  (try clear hi)
                  refine hK.out _ _ ⟨bc_ BK481 0, bc_ BK481 1, bc_ BK481 2, bc_ BK477 0, bc_ BK477 1, bc_ BK477 2, bc_ BK477 3⟩ (fun hHeld => ?_)
                  clear hK K
                  refine norm_ (a' := ?_) ?_ ?_
                  rotate_left
                  ·show Act.put _ (some 113) _ = _
                   simp only [Act.put, List.setIfInBounds_toArray, List.set_cons_zero, List.set_cons_succ, i64_w, i32_w]
                   rfl
                  refine one_ (i := 6) (N := some 116) #[true, true, true, true, true, true, true, false, false, false, false, false] rfl rfl (one_of HT_.out (by kernel_rfl)) (by decide) (fun K hK => ?_)
                  refine goes_ Try.func29 (by kernel_rfl) rfl #[.agg #[.int .i64 t501, .int .i64 t502, .int .i64 t503, .int .i64 t504, .int .i64 t505, .int .i64 t506, .int .i64 t507], .agg #[.int .i64 0, .slice none 0 0, .slice none 0 0], .agg #[.int .i64 a0_0, .int .i64 a0_1, .int .i64 a0_2, .slice A0_3 l0_3.length c0_3]] (by rfl) rfl rfl mp_ ?_
                  refine (bill_Line.calls t501 t502 t503 t504 t505 t506 t507 0 _ _ ([] : List (S99)) _ _ ([] : List Int) a0_0 a0_1 a0_2 _ _ l0_3 t508 t509 _ ?side1 ?side2 ?side3 ?side4 ?side5 ?side6 A36.out).mono ?_
                  (case side1 => exact Kd.C_nil _ _)
                  (case side2 => exact Nat.le_refl _)
                  (case side3 => exact Kd.C_nil _ _)
                  (case side4 => exact Nat.le_refl _)
                  (case side5 => repeat (first | exact (Kd.C_below HR0_3.out HB.out) | (with_reducible refine Kd.C_alloc ?_ _) | (with_reducible refine Kd.C_drewN ?_ _) | (with_reducible refine Kd.C_drew ?_)))
                  (case side6 => exact HC0_3.out)
                  rintro e w58 ⟨rfl, hb⟩
                  refine ⟨_, rfl, ?_⟩
                  have n0_ := (bb_ BK477 hb)
                  have n1_ := (bb_ BK481 hb)
                  have n2_ := Aside0.mk (below_step (hb_ HB) hb)
                  clear BK477
                  clear BK481
                  clear HB
                  have BK477 := n0_
                  have BK481 := n1_
                  have HB := n2_
                  clear n0_ n1_ n2_
                  (try clear hb)
                  (try clear hb2)
                  (try clear hk)
                  (try clear hi)
                  refine hK.out _ _ ⟨bc_ BK481 0, bc_ BK481 1, bc_ BK481 2, bc_ BK477 0, bc_ BK477 1, bc_ BK477 2, bc_ BK477 3⟩ (fun hHeld => ?_)
                  clear hK K
                  refine norm_ (a' := ?_) ?_ ?_
                  rotate_left
                  ·show Act.put _ (some 116) _ = _
                   simp only [Act.put, List.setIfInBounds_toArray, List.set_cons_zero, List.set_cons_succ, i64_w, i32_w]
                   rfl
                  refine pure_ (i := 7) (N := some 109) (v := ?_) (a' := ?_) #[true, true, true, true, true, true, true, true, false, false, false, false] rfl rfl (any_of HT_.out (by kernel_rfl)) (fun _ _ _ h => h) (Or.inl ⟨by rfl, ?_⟩) ?_ ?_
                  rotate_left
                  ·intro w'
                   go_simp
                   with_reducible rfl
                  rotate_left
                  ·simp only [Act.put, List.setIfInBounds_toArray, List.set_cons_zero, List.set_cons_succ, i64_w, i32_w]
                   rfl
                  refine pure_ (i := 8) (N := some 117) (v := ?_) (a' := ?_) #[true, true, true, true, true, true, true, true, true, false, false, false] rfl rfl (any_of HT_.out (by kernel_rfl)) (fun _ _ _ h => h) (Or.inl ⟨by rfl, ?_⟩) ?_ ?_
                  rotate_left
                  ·intro w'
                   go_simp
                   with_reducible rfl
                  rotate_left
                  ·simp only [Act.put, List.setIfInBounds_toArray, List.set_cons_zero, List.set_cons_succ, i64_w, i32_w]
                   rfl
                  refine pure_ (i := 9) (N := some 118) (v := ?_) (a' := ?_) #[true, true, true, true, true, true, true, true, true, true, false, false] rfl rfl (any_of HT_.out (by kernel_rfl)) (fun _ _ _ h => h) (Or.inl ⟨by rfl, ?_⟩) ?_ ?_
                  rotate_left
                  ·intro w'
                   go_simp
                   with_reducible rfl
                  rotate_left
                  ·simp only [Act.put, List.setIfInBounds_toArray, List.set_cons_zero, List.set_cons_succ, i64_w, i32_w]
                   rfl
                  refine pure_ (i := 10) (N := some 21) (v := ?_) (a' := ?_) #[true, true, true, true, true, true, true, true, true, true, true, false] rfl rfl (any_of HT_.out (by kernel_rfl)) (fun _ _ _ h => h) (Or.inl ⟨by rfl, ?_⟩) ?_ ?_
                  rotate_left
                  ·intro w'
                   go_simp
                   with_reducible rfl
                  rotate_left
                  ·simp only [Act.put, List.setIfInBounds_toArray, List.set_cons_zero, List.set_cons_succ, i64_w, i32_w]
                   rfl
                  refine pure_ (i := 11) (N := some 22) (v := ?_) (a' := ?_) #[true, true, true, true, true, true, true, true, true, true, true, true] rfl rfl (any_of HT_.out (by kernel_rfl)) (fun _ _ _ h => h) (Or.inl ⟨by rfl, ?_⟩) ?_ ?_
                  rotate_left
                  ·intro w'
                   go_simp
                   with_reducible rfl
                  rotate_left
                  ·simp only [Act.put, List.setIfInBounds_toArray, List.set_cons_zero, List.set_cons_succ, i64_w, i32_w]
                   rfl
                  refine done_ (done_of HT_.out (by kernel_rfl)) ?_
                  try go_wp2
                  have n0_ := Aside0.mk (blk_drew BK477.out)
                  have n1_ := Aside0.mk (blk_drew BK481.out)
                  have n2_ := Aside0.mk (below_drew1 HB.out)
                  clear BK477
                  clear BK481
                  clear HB
                  have BK477 := n0_
                  have BK481 := n1_
                  have HB := n2_
                  clear n0_ n1_ n2_
                  refine start_ (n := 12) (S := fun w' => w'.cell? ⟨gb481, 0, none⟩ = some (.int .i64 0) ∧ w'.cell? ⟨gb481, 1, none⟩ = some (.slice none 0 0) ∧ w'.cell? ⟨gb481, 2, none⟩ = some (.slice none 0 0) ∧ w'.cell? ⟨gb477, 0, none⟩ = some (.int .i64 a0_0) ∧ w'.cell? ⟨gb477, 1, none⟩ = some (.int .i64 a0_1) ∧ w'.cell? ⟨gb477, 2, none⟩ = some (.int .i64 a0_2) ∧ w'.cell? ⟨gb477, 3, none⟩ = some (.slice A0_3 l0_3.length c0_3)) (ds := []) #[false, false, false, false, false, false, false, false, false, false, false, false] (by kernel_rfl) rfl rfl ⟨bc_ BK481 0, bc_ BK481 1, bc_ BK481 2, bc_ BK477 0, bc_ BK477 1, bc_ BK477 2, bc_ BK477 3⟩ (fun hHeld => ?_); refine with_tabW chargeparklaw33_BillExactly.tab17 chargeparklaw33_BillExactly.bits17 (fun HT_ HW_ => ?_)
                  generalize w58.drew = w59 at BK477 BK481 HB hHeld ⊢
                  refine pure_ (i := 0) (N := some 120) (v := ?_) (a' := ?_) #[true, false, false, false, false, false, false, false, false, false, false, false] rfl rfl (any_of HT_.out (by kernel_rfl)) (fun _ _ _ h => h) (Or.inl ⟨by rfl, ?_⟩) ?_ ?_
                  rotate_left
                  ·intro w'
                   go_simp
                   with_reducible rfl
                  rotate_left
                  ·simp only [Act.put, List.setIfInBounds_toArray, List.set_cons_zero, List.set_cons_succ, i64_w, i32_w]
                   rfl
                  refine pure_ (i := 1) (N := some 121) (v := ?_) (a' := ?_) #[true, true, false, false, false, false, false, false, false, false, false, false] rfl rfl (any_of HT_.out (by kernel_rfl)) (fun _ _ _ h => h) (Or.inl ⟨by rfl, ?_⟩) ?_ ?_
                  rotate_left
                  ·intro w'
                   go_simp
                   with_reducible rfl
                  rotate_left
                  ·simp only [Act.put, List.setIfInBounds_toArray, List.set_cons_zero, List.set_cons_succ, i64_w, i32_w]
                   rfl
                  refine pure_ (i := 2) (N := some 122) (v := ?_) (a' := ?_) #[true, true, true, false, false, false, false, false, false, false, false, false] rfl rfl (any_of HT_.out (by kernel_rfl)) (fun _ _ _ h => h) (Or.inl ⟨by rfl, ?_⟩) ?_ ?_
                  rotate_left
                  ·intro w'
                   go_simp
                   with_reducible rfl
                  rotate_left
                  ·simp only [Act.put, List.setIfInBounds_toArray, List.set_cons_zero, List.set_cons_succ, i64_w, i32_w]
                   rfl
                  refine take_ (i := 4) (N := some 124) (v := ?_) (a' := ?_) #[true, true, true, false, true, false, false, false, false, false, false, false] rfl rfl (take_ofW HT_.out HW_.out (by kernel_rfl)) (fun _ _ _ h => h) (Or.inl ⟨by rfl, ?_⟩) hHeld ?_ ?_
                  rotate_left
                  ·rintro w' ⟨s0, s1, s2, s3, s4, s5, s6⟩
                   go_simp
                   with_reducible rfl
                  rotate_left
                  ·simp only [Act.put, List.setIfInBounds_toArray, List.set_cons_zero, List.set_cons_succ, i64_w, i32_w]
                   rfl
                  refine take_ (i := 5) (N := some 125) (v := ?_) (a' := ?_) #[true, true, true, false, true, true, false, false, false, false, false, false] rfl rfl (take_ofW HT_.out HW_.out (by kernel_rfl)) (fun _ _ _ h => h) (Or.inl ⟨by rfl, ?_⟩) hHeld ?_ ?_
                  rotate_left
                  ·rintro w' ⟨s0, s1, s2, s3, s4, s5, s6⟩
                   go_simp
                   with_reducible rfl
                  rotate_left
                  ·simp only [Act.put, List.setIfInBounds_toArray, List.set_cons_zero, List.set_cons_succ, i64_w, i32_w]
                   rfl
                  refine one_ (i := 3) (N := some 123) #[true, true, true, true, true, true, false, false, false, false, false, false] rfl rfl (one_of HT_.out (by kernel_rfl)) (by decide) (fun K hK => ?_)
                  refine goes_ Try.func35 (by kernel_rfl) rfl #[.int .i64 4, .int .i64 a1, .int .i64 a2, .int .i64 a3] (by rfl) rfl rfl mp_ ?_
                  with_reducible refine (chargeparklaw33_article.calls 4 a1 a2 a3 t510 t511 t512 t513 t514 t515 t516 _ A37.out).mono ?_
                  rintro e w60 ⟨rfl, hb⟩
                  refine ⟨_, rfl, ?_⟩
                  have n0_ := (bb_ BK477 hb)
                  have n1_ := (bb_ BK481 hb)
                  have n2_ := Aside0.mk (below_step (hb_ HB) hb)
                  clear BK477
                  clear BK481
                  clear HB
                  have BK477 := n0_
                  have BK481 := n1_
                  have HB := n2_
                  clear n0_ n1_ n2_
                  (try clear hb)
                  (try clear hb2)
                  (try clear hk)
                  (try clear hi)
                  refine hK.out _ _ ⟨bc_ BK481 0, bc_ BK481 1, bc_ BK481 2, bc_ BK477 0, bc_ BK477 1, bc_ BK477 2, bc_ BK477 3⟩ (fun hHeld => ?_)
                  clear hK K
                  refine norm_ (a' := ?_) ?_ ?_
                  rotate_left
                  ·show Act.put _ (some 123) _ = _
                   simp only [Act.put, List.setIfInBounds_toArray, List.set_cons_zero, List.set_cons_succ, i64_w, i32_w]
                   rfl
                  refine one_ (i := 6) (N := some 126) #[true, true, true, true, true, true, true, false, false, false, false, false] rfl rfl (one_of HT_.out (by kernel_rfl)) (by decide) (fun K hK => ?_)
                  refine goes_ Try.func29 (by kernel_rfl) rfl #[.agg #[.int .i64 t510, .int .i64 t511, .int .i64 t512, .int .i64 t513, .int .i64 t514, .int .i64 t515, .int .i64 t516], .agg #[.int .i64 0, .slice none 0 0, .slice none 0 0], .agg #[.int .i64 a0_0, .int .i64 a0_1, .int .i64 a0_2, .slice A0_3 l0_3.length c0_3]] (by rfl) rfl rfl mp_ ?_
                  refine (bill_Line.calls t510 t511 t512 t513 t514 t515 t516 0 _ _ ([] : List (S99)) _ _ ([] : List Int) a0_0 a0_1 a0_2 _ _ l0_3 t517 t518 _ ?side1 ?side2 ?side3 ?side4 ?side5 ?side6 A38.out).mono ?_
                  (case side1 => exact Kd.C_nil _ _)
                  (case side2 => exact Nat.le_refl _)
                  (case side3 => exact Kd.C_nil _ _)
                  (case side4 => exact Nat.le_refl _)
                  (case side5 => repeat (first | exact (Kd.C_below HR0_3.out HB.out) | (with_reducible refine Kd.C_alloc ?_ _) | (with_reducible refine Kd.C_drewN ?_ _) | (with_reducible refine Kd.C_drew ?_)))
                  (case side6 => exact HC0_3.out)
                  rintro e w61 ⟨rfl, hb⟩
                  refine ⟨_, rfl, ?_⟩
                  have n0_ := (bb_ BK477 hb)
                  have n1_ := (bb_ BK481 hb)
                  have n2_ := Aside0.mk (below_step (hb_ HB) hb)
                  clear BK477
                  clear BK481
                  clear HB
                  have BK477 := n0_
                  have BK481 := n1_
                  have HB := n2_
                  clear n0_ n1_ n2_
                  (try clear hb)
                  (try clear hb2)
                  (try clear hk)
                  (try clear hi)
                  refine hK.out _ _ ⟨bc_ BK481 0, bc_ BK481 1, bc_ BK481 2, bc_ BK477 0, bc_ BK477 1, bc_ BK477 2, bc_ BK477 3⟩ (fun hHeld => ?_)
                  clear hK K
                  refine norm_ (a' := ?_) ?_ ?_
                  rotate_left
                  ·show Act.put _ (some 126) _ = _
                   simp only [Act.put, List.setIfInBounds_toArray, List.set_cons_zero, List.set_cons_succ, i64_w, i32_w]
                   rfl
                  refine pure_ (i := 7) (N := some 119) (v := ?_) (a' := ?_) #[true, true, true, true, true, true, true, true, false, false, false, false] rfl rfl (any_of HT_.out (by kernel_rfl)) (fun _ _ _ h => h) (Or.inl ⟨by rfl, ?_⟩) ?_ ?_
                  rotate_left
                  ·intro w'
                   go_simp
                   with_reducible rfl
                  rotate_left
                  ·simp only [Act.put, List.setIfInBounds_toArray, List.set_cons_zero, List.set_cons_succ, i64_w, i32_w]
                   rfl
                  refine pure_ (i := 8) (N := some 127) (v := ?_) (a' := ?_) #[true, true, true, true, true, true, true, true, true, false, false, false] rfl rfl (any_of HT_.out (by kernel_rfl)) (fun _ _ _ h => h) (Or.inl ⟨by rfl, ?_⟩) ?_ ?_
                  rotate_left
                  ·intro w'
                   go_simp
                   with_reducible rfl
                  rotate_left
                  ·simp only [Act.put, List.setIfInBounds_toArray, List.set_cons_zero, List.set_cons_succ, i64_w, i32_w]
                   rfl
                  refine pure_ (i := 9) (N := some 128) (v := ?_) (a' := ?_) #[true, true, true, true, true, true, true, true, true, true, false, false] rfl rfl (any_of HT_.out (by kernel_rfl)) (fun _ _ _ h => h) (Or.inl ⟨by rfl, ?_⟩) ?_ ?_
                  rotate_left
                  ·intro w'
                   go_simp
                   with_reducible rfl
                  rotate_left
                  ·simp only [Act.put, List.setIfInBounds_toArray, List.set_cons_zero, List.set_cons_succ, i64_w, i32_w]
                   rfl
                  refine pure_ (i := 10) (N := some 23) (v := ?_) (a' := ?_) #[true, true, true, true, true, true, true, true, true, true, true, false] rfl rfl (any_of HT_.out (by kernel_rfl)) (fun _ _ _ h => h) (Or.inl ⟨by rfl, ?_⟩) ?_ ?_
                  rotate_left
                  ·intro w'
                   go_simp
                   with_reducible rfl
                  rotate_left
                  ·simp only [Act.put, List.setIfInBounds_toArray, List.set_cons_zero, List.set_cons_succ, i64_w, i32_w]
                   rfl
                  refine pure_ (i := 11) (N := some 24) (v := ?_) (a' := ?_) #[true, true, true, true, true, true, true, true, true, true, true, true] rfl rfl (any_of HT_.out (by kernel_rfl)) (fun _ _ _ h => h) (Or.inl ⟨by rfl, ?_⟩) ?_ ?_
                  rotate_left
                  ·intro w'
                   go_simp
                   with_reducible rfl
                  rotate_left
                  ·simp only [Act.put, List.setIfInBounds_toArray, List.set_cons_zero, List.set_cons_succ, i64_w, i32_w]
                   rfl
                  refine done_ (done_of HT_.out (by kernel_rfl)) ?_
                  try go_wp2
                  go_ret
                  exact ⟨by first | rfl | (simp [errW_none, errW_some] <;> rfl) | (simp only [← hji29, ← hji30]; first | rfl | (simp [errW_none, errW_some] <;> rfl)) | (simp [*, errW_none, errW_some] <;> rfl), by repeat (first | (with_reducible first | exact HB.out | apply below_alloc | apply pw_below_drewN | apply below_drew1 | refine below_set ?_ GE477.out | refine below_set ?_ GE481.out) | exact HB.out)⟩
                 ·rw [if_neg c47] at H
                  have c47b0 : (t508 == (wrap64 (a1 * (wrap64 (Int.tdiv (wrap64 ((wrap64 ((ji29) + a2)) - 1)) a2))))) = false := beq_eq_false_iff_ne.mpr c47
                  have c47b1 : (t508 != (wrap64 (a1 * (wrap64 (Int.tdiv (wrap64 ((wrap64 ((ji29) + a2)) - 1)) a2))))) = true := bne_iff_ne.mpr c47
                  exact absurd ((Option.some.inj H).trans hT_.out) (by decide)
               ·rw [if_neg c45] at H
                have c45b0 : (t499 == (wrap64 (Int.tdiv (wrap64 ((wrap64 (a1 * x13_3)) + 500)) 1000))) = false := beq_eq_false_iff_ne.mpr c45
                have c45b1 : (t499 != (wrap64 (Int.tdiv (wrap64 ((wrap64 (a1 * x13_3)) + 500)) 1000))) = true := bne_iff_ne.mpr c45
                exact absurd ((Option.some.inj H).trans hT_.out) (by decide)
              ·rw [if_neg c44] at H
               have c44b0 : (t490 == a1) = false := beq_eq_false_iff_ne.mpr c44
               have c44b1 : (t490 != a1) = true := bne_iff_ne.mpr c44
               exact absurd ((Option.some.inj H).trans hT_.out) (by decide)
             ·rw [if_neg c43] at H
              have c43b0 : (t518 == 0) = false := beq_eq_false_iff_ne.mpr c43
              have c43b1 : (t518 != 0) = true := bne_iff_ne.mpr c43
              exact absurd ((Option.some.inj H).trans hT_.out) (by decide)
            ·rw [if_neg c42] at H
             have c42b0 : (t509 == 0) = false := beq_eq_false_iff_ne.mpr c42
             have c42b1 : (t509 != 0) = true := bne_iff_ne.mpr c42
             exact absurd ((Option.some.inj H).trans hT_.out) (by decide)
           ·rw [if_neg c41] at H
            have c41b0 : (t500 == 0) = false := beq_eq_false_iff_ne.mpr c41
            have c41b1 : (t500 != 0) = true := bne_iff_ne.mpr c41
            exact absurd ((Option.some.inj H).trans hT_.out) (by decide)
          ·rw [if_neg c40] at H
           have c40b0 : (t491 == 0) = false := beq_eq_false_iff_ne.mpr c40
           have c40b1 : (t491 != 0) = true := bne_iff_ne.mpr c40
           exact absurd ((Option.some.inj H).trans hT_.out) (by decide)
         ·replace c39 := Bool.eq_false_iff.mpr c39
          subst c39
          have H1 : (some false) = some r := by rw [if_neg (show ¬ (false = true) by decide)] at H; exact H
          clear H
          have H := H1
          clear H1
          exact absurd ((Option.some.inj H).trans hT_.out) (by decide)

end Go.Proofs.Ytbkkgaiokmnmgaa.Pr
