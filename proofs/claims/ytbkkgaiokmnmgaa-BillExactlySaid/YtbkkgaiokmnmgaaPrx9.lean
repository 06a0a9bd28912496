-- Printed by hprint.py (a program of this claim's session over the kit's printer).
import Derived.Test.YtbkkgaiokmnmgaaPrx0
import Derived.Test.YtbkkgaiokmnmgaaHShort
import Derived.Test.YtbkkgaiokmnmgaaPrx5
import Derived.Test.YtbkkgaiokmnmgaaPrx8
import Derived.Test.YtbkkgaiokmnmgaaHBillB
import Derived.Test.YtbkkgaiokmnmgaaHBillL
namespace Go.Proofs.Ytbkkgaiokmnmgaa.Pr
open Go.RowKit Go.Proofs.YtbkkgaiokmnmgaaW.PrintWords Go.Proofs.YtbkkgaiokmnmgaaW.PrintLast Go.Proofs.YtbkkgaiokmnmgaaW.PrintMore
attribute [local go_sem] max2_int min2_int max_two min_two max_three min_three max_four min_four   -- for this text's walks alone
set_option linter.unusedVariables false
set_option linter.unusedSimpArgs false

/-! ### chargeparklaw33_head: function 25 -/
def chargeparklaw33_head.f  : Option (Bool) := (chargeparklaw33_article.f 4 7 15 0).bind fun bt152 => ((chargeparklaw33_article.f 2 40 0 0).bind fun bt160 => ((chargeparklaw33_article.f 1 100 0 0).bind fun bt168 => ((chargeparklaw33_article.f 2 3333 0 0).bind fun bt175 => ((chargeparklaw33_article.f 3 10 25 5).bind fun bt182 => ((chargeparklaw33_tariffOf.f (([(⟨bt168.1, bt168.2.1, bt168.2.2.1, bt168.2.2.2.1, bt168.2.2.2.2.1, bt168.2.2.2.2.2.1, bt168.2.2.2.2.2.2⟩ : S26), (⟨bt175.1, bt175.2.1, bt175.2.2.1, bt175.2.2.2.1, bt175.2.2.2.2.1, bt175.2.2.2.2.2.1, bt175.2.2.2.2.2.2⟩ : S26), (⟨bt182.1, bt182.2.1, bt182.2.2.1, bt182.2.2.2.1, bt182.2.2.2.2.1, bt182.2.2.2.2.2.1, bt182.2.2.2.2.2.2⟩ : S26), (⟨bt152.1, bt152.2.1, bt152.2.2.1, 650, bt152.2.2.2.2.1, bt152.2.2.2.2.2.1, bt152.2.2.2.2.2.2⟩ : S26), (⟨bt160.1, 2, bt160.2.2.1, bt160.2.2.2.1, bt160.2.2.2.2.1, bt160.2.2.2.2.2.1, bt160.2.2.2.2.2.2⟩ : S26)] : List (S26)))).bind fun bt192 => ((chargeparklaw33_example.f).bind fun bt197 => ((bill_Bill.f bt192.1 bt192.2 0 ([] : List (S99)) ([] : List Int) bt197.1 bt197.2.1 bt197.2.2.1 bt197.2.2.2).bind fun bt203 => ((chargeparklaw33_article.f 5 1000 0 0).bind fun bt211 => ((chargeparklaw33_article.f 6 1905 0 0).bind fun bt218 => ((some (([(⟨bt211.1, bt211.2.1, bt211.2.2.1, bt211.2.2.2.1, bt211.2.2.2.2.1, bt211.2.2.2.2.2.1, bt211.2.2.2.2.2.2⟩ : S26), (⟨bt218.1, bt218.2.1, bt218.2.2.1, bt218.2.2.2.1, bt218.2.2.2.2.1, bt218.2.2.2.2.2.1, bt218.2.2.2.2.2.2⟩ : S26)] : List (S26)) : List (S26))).bind fun y225 => (if bt192.2.length + y225.length < 2513169434916 then ((some (bt192.2 ++ y225 : List (S26))).bind fun y228 => ((chargeparklaw33_example.f).bind fun bt231 => ((bill_Bill.f bt192.1 y228 0 ([] : List (S99)) ([] : List Int) bt231.1 bt231.2.1 bt231.2.2.1 bt231.2.2.2).bind fun bt237 => ((bill_Bill.f bt192.1 y228 0 ([] : List (S99)) ([] : List Int) 0 0 0 ([] : List (S50))).bind fun bt245 => ((chargeparklaw33_example.f).bind fun bt253 => ((bill_Line.f bt152.1 bt152.2.1 bt152.2.2.1 650 bt152.2.2.2.2.1 bt152.2.2.2.2.2.1 bt152.2.2.2.2.2.2 0 ([] : List (S99)) ([] : List Int) bt253.1 bt253.2.1 bt253.2.2.1 bt253.2.2.2).bind fun bt259 => (if bt203.2.2.2.2 = 0 then (if bt237.2.2.2.2 = 0 then (if bt245.2.2.2.2 = 1 then (if bt259.2 = 0 then (if bt259.1 = 7 then ((chargeparklaw33_example.f).bind fun bt261 => ((bill_Valid.f 100 bt261.1 bt261.2.1 bt261.2.2.1 bt261.2.2.2).bind fun t267 => (if t267 = true then ((bill_Valid.f 100 0 0 0 ([] : List (S50))).bind fun t268 => ((some (([(⟨0, 100⟩ : S48), (⟨1, 16665⟩ : S48), (⟨2, 30⟩ : S48), (⟨3, 7⟩ : S48), (⟨4, 0⟩ : S48)] : List (S48)) : List (S48))).bind fun y269 => (if t268 = true then (some false) else ((chargeparkref33_Same.f 100 bt203.1 bt203.2.1 bt203.2.2.1 bt203.2.2.2.1 y269 16802 0 16802).bind fun t272 => (if t272 = true then ((chargeparkref33_Same.f 100 bt237.1 bt237.2.1 bt237.2.2.1 bt237.2.2.2.1 y269 1000 191 1191).bind fun t273 => (some t273)) else (some false)))))) else (some false)))) else (some false)) else (some false)) else (some false)) else (some false)) else (some false)))))))) else (none))))))))))))
def chargeparklaw33_head.T6 : Bool × List (List Nat × List Nat) := (true, [([], []), ([0], []), ([1], []), ([], []), ([], []), ([0, 1, 2, 3, 4], [0, 1, 2, 3, 4]), ([5, 2], [5]), ([], []), ([7, 6, 6, 0, 1, 2, 3, 4, 5, 6, 7], [6, 7])])
def chargeparklaw33_head.B6 : List Nat := [0, 1, 3, 0, 0, 31, 63, 0, 255]
theorem chargeparklaw33_head.tab6 : rtab .any (opsOf Try.f25 6) = chargeparklaw33_head.T6 := by kernel_rfl
theorem chargeparklaw33_head.bits6 : waitsOk chargeparklaw33_head.T6.2 chargeparklaw33_head.B6 = true := by kernel_rfl
def chargeparklaw33_head.T7 : Bool × List (List Nat × List Nat) := (true, [([], []), ([], []), ([], []), ([0, 1, 2, 2], [0, 1, 2]), ([3], [3]), ([4], [4]), ([4], [4]), ([], []), ([7, 5, 3, 0, 1, 2, 3, 4, 5, 7], [5, 7]), ([6, 8, 0, 1, 2, 3, 4, 5, 6, 7, 8], [6])])
def chargeparklaw33_head.B7 : List Nat := [0, 0, 0, 7, 15, 31, 31, 0, 191, 511]
theorem chargeparklaw33_head.tab7 : rtab .any (opsOf Try.f25 7) = chargeparklaw33_head.T7 := by kernel_rfl
theorem chargeparklaw33_head.bits7 : waitsOk chargeparklaw33_head.T7.2 chargeparklaw33_head.B7 = true := by kernel_rfl
def chargeparklaw33_head.T8 : Bool × List (List Nat × List Nat) := (true, [([], []), ([0], [0]), ([], []), ([2], []), ([2, 3], [2, 3]), ([1, 4, 3], [1, 4]), ([0, 1, 2, 3, 4, 5], []), ([6, 5, 5, 0, 1, 2, 3, 4, 5], [5, 6])])
def chargeparklaw33_head.B8 : List Nat := [0, 1, 0, 4, 12, 31, 63, 127]
theorem chargeparklaw33_head.tab8 : rtab .any (opsOf Try.f25 8) = chargeparklaw33_head.T8 := by kernel_rfl
theorem chargeparklaw33_head.bits8 : waitsOk chargeparklaw33_head.T8.2 chargeparklaw33_head.B8 = true := by kernel_rfl
def chargeparklaw33_head.T9 : Bool × List (List Nat × List Nat) := (true, [([], []), ([], []), ([], []), ([0, 1, 2, 2], [0, 1, 2]), ([3], [3]), ([4], [4]), ([4], [4]), ([], []), ([7, 5, 3, 0, 1, 2, 3, 4, 5, 7], [5, 7]), ([6, 8, 0, 1, 2, 3, 4, 5, 6, 7, 8], [6])])
def chargeparklaw33_head.B9 : List Nat := [0, 0, 0, 7, 15, 31, 31, 0, 191, 511]
theorem chargeparklaw33_head.tab9 : rtab .any (opsOf Try.f25 9) = chargeparklaw33_head.T9 := by kernel_rfl
theorem chargeparklaw33_head.bits9 : waitsOk chargeparklaw33_head.T9.2 chargeparklaw33_head.B9 = true := by kernel_rfl
def chargeparklaw33_head.T11 : Bool × List (List Nat × List Nat) := (true, [([], []), ([], []), ([], []), ([0, 1, 2, 2], [0, 1, 2]), ([3], [3]), ([4], [4]), ([4], [4]), ([5, 3, 0, 1, 2, 3, 4, 5], [5]), ([6, 7, 0, 1, 2, 3, 4, 5, 6, 7], [6])])
def chargeparklaw33_head.B11 : List Nat := [0, 0, 0, 7, 15, 31, 31, 63, 255]
theorem chargeparklaw33_head.tab11 : rtab .any (opsOf Try.f25 11) = chargeparklaw33_head.T11 := by kernel_rfl
theorem chargeparklaw33_head.bits11 : waitsOk chargeparklaw33_head.T11.2 chargeparklaw33_head.B11 = true := by kernel_rfl
set_option maxHeartbeats 8000000 in
set_option maxRecDepth 100000 in
theorem chargeparklaw33_head.calls  (r : Bool) (w : World) (h : chargeparklaw33_head.f  = some r) :
  Calls Try.prog 25 #[] w fun e w' => e = .returned (.bool r) ∧ Below w.heap.size w w' := by
 have hu30 := Try.underlying30
 have hu26 := Try.underlying26
 have hu24 := Try.underlying24
 have hu38 := Try.underlying38
 have hu33 := Try.underlying33
 have hu48 := Try.underlying48
 have HB := Aside0.mk (Below.refl w.heap.size w)
 have H : ((chargeparklaw33_article.f 4 7 15 0).bind fun bt152 => ((chargeparklaw33_article.f 2 40 0 0).bind fun bt160 => ((chargeparklaw33_article.f 1 100 0 0).bind fun bt168 => ((chargeparklaw33_article.f 2 3333 0 0).bind fun bt175 => ((chargeparklaw33_article.f 3 10 25 5).bind fun bt182 => ((chargeparklaw33_tariffOf.f (([(⟨bt168.1, bt168.2.1, bt168.2.2.1, bt168.2.2.2.1, bt168.2.2.2.2.1, bt168.2.2.2.2.2.1, bt168.2.2.2.2.2.2⟩ : S26), (⟨bt175.1, bt175.2.1, bt175.2.2.1, bt175.2.2.2.1, bt175.2.2.2.2.1, bt175.2.2.2.2.2.1, bt175.2.2.2.2.2.2⟩ : S26), (⟨bt182.1, bt182.2.1, bt182.2.2.1, bt182.2.2.2.1, bt182.2.2.2.2.1, bt182.2.2.2.2.2.1, bt182.2.2.2.2.2.2⟩ : S26), (⟨bt152.1, bt152.2.1, bt152.2.2.1, 650, bt152.2.2.2.2.1, bt152.2.2.2.2.2.1, bt152.2.2.2.2.2.2⟩ : S26), (⟨bt160.1, 2, bt160.2.2.1, bt160.2.2.2.1, bt160.2.2.2.2.1, bt160.2.2.2.2.2.1, bt160.2.2.2.2.2.2⟩ : S26)] : List (S26)))).bind fun bt192 => ((chargeparklaw33_example.f).bind fun bt197 => ((bill_Bill.f bt192.1 bt192.2 0 ([] : List (S99)) ([] : List Int) bt197.1 bt197.2.1 bt197.2.2.1 bt197.2.2.2).bind fun bt203 => ((chargeparklaw33_article.f 5 1000 0 0).bind fun bt211 => ((chargeparklaw33_article.f 6 1905 0 0).bind fun bt218 => ((some (([(⟨bt211.1, bt211.2.1, bt211.2.2.1, bt211.2.2.2.1, bt211.2.2.2.2.1, bt211.2.2.2.2.2.1, bt211.2.2.2.2.2.2⟩ : S26), (⟨bt218.1, bt218.2.1, bt218.2.2.1, bt218.2.2.2.1, bt218.2.2.2.2.1, bt218.2.2.2.2.2.1, bt218.2.2.2.2.2.2⟩ : S26)] : List (S26)) : List (S26))).bind fun y225 => (if bt192.2.length + y225.length < 2513169434916 then ((some (bt192.2 ++ y225 : List (S26))).bind fun y228 => ((chargeparklaw33_example.f).bind fun bt231 => ((bill_Bill.f bt192.1 y228 0 ([] : List (S99)) ([] : List Int) bt231.1 bt231.2.1 bt231.2.2.1 bt231.2.2.2).bind fun bt237 => ((bill_Bill.f bt192.1 y228 0 ([] : List (S99)) ([] : List Int) 0 0 0 ([] : List (S50))).bind fun bt245 => ((chargeparklaw33_example.f).bind fun bt253 => ((bill_Line.f bt152.1 bt152.2.1 bt152.2.2.1 650 bt152.2.2.2.2.1 bt152.2.2.2.2.2.1 bt152.2.2.2.2.2.2 0 ([] : List (S99)) ([] : List Int) bt253.1 bt253.2.1 bt253.2.2.1 bt253.2.2.2).bind fun bt259 => (if bt203.2.2.2.2 = 0 then (if bt237.2.2.2.2 = 0 then (if bt245.2.2.2.2 = 1 then (if bt259.2 = 0 then (if bt259.1 = 7 then ((chargeparklaw33_example.f).bind fun bt261 => ((bill_Valid.f 100 bt261.1 bt261.2.1 bt261.2.2.1 bt261.2.2.2).bind fun t267 => (if t267 = true then ((bill_Valid.f 100 0 0 0 ([] : List (S50))).bind fun t268 => ((some (([(⟨0, 100⟩ : S48), (⟨1, 16665⟩ : S48), (⟨2, 30⟩ : S48), (⟨3, 7⟩ : S48), (⟨4, 0⟩ : S48)] : List (S48)) : List (S48))).bind fun y269 => (if t268 = true then (some false) else ((chargeparkref33_Same.f 100 bt203.1 bt203.2.1 bt203.2.2.1 bt203.2.2.2.1 y269 16802 0 16802).bind fun t272 => (if t272 = true then ((chargeparkref33_Same.f 100 bt237.1 bt237.2.1 bt237.2.2.1 bt237.2.2.2.1 y269 1000 191 1191).bind fun t273 => (some t273)) else (some false)))))) else (some false)))) else (some false)) else (some false)) else (some false)) else (some false)) else (some false)))))))) else (none))))))))))))) = some r := h
 clear h
 replace H := Option.bind_eq_some_iff.mp H
 obtain ⟨⟨t152, t153, t154, t155, t156, t157, t158⟩, A10, H⟩ := H
 have EA1 := Option.some.inj (A10.symm.trans (show (chargeparklaw33_article.f 4 7 15 0) = some (4, 7, 0, 1440, 7, 15, 0) by kernel_rfl))
 simp only [Prod.mk.injEq] at EA1
 obtain ⟨e_t152, e_t153, e_t154, e_t155, e_t156, e_t157, e_t158⟩ := EA1
 subst e_t152 e_t153 e_t154 e_t155 e_t156 e_t157 e_t158
 have A1 := Aside0.mk A10
 clear A10
 replace H := Option.bind_eq_some_iff.mp H
 obtain ⟨⟨t160, t161, t162, t163, t164, t165, t166⟩, A20, H⟩ := H
 have EA2 := Option.some.inj (A20.symm.trans (show (chargeparklaw33_article.f 2 40 0 0) = some (2, 7, 0, 1440, 40, 0, 0) by kernel_rfl))
 simp only [Prod.mk.injEq] at EA2
 obtain ⟨e_t160, e_t161, e_t162, e_t163, e_t164, e_t165, e_t166⟩ := EA2
 subst e_t160 e_t161 e_t162 e_t163 e_t164 e_t165 e_t166
 have A2 := Aside0.mk A20
 clear A20
 replace H := Option.bind_eq_some_iff.mp H
 obtain ⟨⟨t168, t169, t170, t171, t172, t173, t174⟩, A30, H⟩ := H
 have EA3 := Option.some.inj (A30.symm.trans (show (chargeparklaw33_article.f 1 100 0 0) = some (1, 7, 0, 1440, 100, 0, 0) by kernel_rfl))
 simp only [Prod.mk.injEq] at EA3
 obtain ⟨e_t168, e_t169, e_t170, e_t171, e_t172, e_t173, e_t174⟩ := EA3
 subst e_t168 e_t169 e_t170 e_t171 e_t172 e_t173 e_t174
 have A3 := Aside0.mk A30
 clear A30
 replace H := Option.bind_eq_some_iff.mp H
 obtain ⟨⟨t175, t176, t177, t178, t179, t180, t181⟩, A40, H⟩ := H
 have EA4 := Option.some.inj (A40.symm.trans (show (chargeparklaw33_article.f 2 3333 0 0) = some (2, 7, 0, 1440, 3333, 0, 0) by kernel_rfl))
 simp only [Prod.mk.injEq] at EA4
 obtain ⟨e_t175, e_t176, e_t177, e_t178, e_t179, e_t180, e_t181⟩ := EA4
 subst e_t175 e_t176 e_t177 e_t178 e_t179 e_t180 e_t181
 have A4 := Aside0.mk A40
 clear A40
 replace H := Option.bind_eq_some_iff.mp H
 obtain ⟨⟨t182, t183, t184, t185, t186, t187, t188⟩, A50, H⟩ := H
 have EA5 := Option.some.inj (A50.symm.trans (show (chargeparklaw33_article.f 3 10 25 5) = some (3, 7, 0, 1440, 10, 25, 5) by kernel_rfl))
 simp only [Prod.mk.injEq] at EA5
 obtain ⟨e_t182, e_t183, e_t184, e_t185, e_t186, e_t187, e_t188⟩ := EA5
 subst e_t182 e_t183 e_t184 e_t185 e_t186 e_t187 e_t188
 have A5 := Aside0.mk A50
 clear A50
 obtain ⟨y189, hy189⟩ : ∃ y_ : List (S26), y_ = (([(⟨1, 7, 0, 1440, 100, 0, 0⟩ : S26), (⟨2, 7, 0, 1440, 3333, 0, 0⟩ : S26), (⟨3, 7, 0, 1440, 10, 25, 5⟩ : S26), (⟨4, 7, 0, 650, 7, 15, 0⟩ : S26), (⟨2, 2, 0, 1440, 40, 0, 0⟩ : S26)] : List (S26))) := ⟨_, rfl⟩
 replace H : ((chargeparklaw33_tariffOf.f y189).bind fun bt192 => ((chargeparklaw33_example.f).bind fun bt197 => ((bill_Bill.f bt192.1 bt192.2 0 ([] : List (S99)) ([] : List Int) bt197.1 bt197.2.1 bt197.2.2.1 bt197.2.2.2).bind fun bt203 => ((chargeparklaw33_article.f 5 1000 0 0).bind fun bt211 => ((chargeparklaw33_article.f 6 1905 0 0).bind fun bt218 => ((some (([(⟨bt211.1, bt211.2.1, bt211.2.2.1, bt211.2.2.2.1, bt211.2.2.2.2.1, bt211.2.2.2.2.2.1, bt211.2.2.2.2.2.2⟩ : S26), (⟨bt218.1, bt218.2.1, bt218.2.2.1, bt218.2.2.2.1, bt218.2.2.2.2.1, bt218.2.2.2.2.2.1, bt218.2.2.2.2.2.2⟩ : S26)] : List (S26)) : List (S26))).bind fun y225 => (if bt192.2.length + y225.length < 2513169434916 then ((some (bt192.2 ++ y225 : List (S26))).bind fun y228 => ((chargeparklaw33_example.f).bind fun bt231 => ((bill_Bill.f bt192.1 y228 0 ([] : List (S99)) ([] : List Int) bt231.1 bt231.2.1 bt231.2.2.1 bt231.2.2.2).bind fun bt237 => ((bill_Bill.f bt192.1 y228 0 ([] : List (S99)) ([] : List Int) 0 0 0 ([] : List (S50))).bind fun bt245 => ((chargeparklaw33_example.f).bind fun bt253 => ((bill_Line.f 4 7 0 650 7 15 0 0 ([] : List (S99)) ([] : List Int) bt253.1 bt253.2.1 bt253.2.2.1 bt253.2.2.2).bind fun bt259 => (if bt203.2.2.2.2 = 0 then (if bt237.2.2.2.2 = 0 then (if bt245.2.2.2.2 = 1 then (if bt259.2 = 0 then (if bt259.1 = 7 then ((chargeparklaw33_example.f).bind fun bt261 => ((bill_Valid.f 100 bt261.1 bt261.2.1 bt261.2.2.1 bt261.2.2.2).bind fun t267 => (if t267 = true then ((bill_Valid.f 100 0 0 0 ([] : List (S50))).bind fun t268 => ((some (([(⟨0, 100⟩ : S48), (⟨1, 16665⟩ : S48), (⟨2, 30⟩ : S48), (⟨3, 7⟩ : S48), (⟨4, 0⟩ : S48)] : List (S48)) : List (S48))).bind fun y269 => (if t268 = true then (some false) else ((chargeparkref33_Same.f 100 bt203.1 bt203.2.1 bt203.2.2.1 bt203.2.2.2.1 y269 16802 0 16802).bind fun t272 => (if t272 = true then ((chargeparkref33_Same.f 100 bt237.1 bt237.2.1 bt237.2.2.1 bt237.2.2.2.1 y269 1000 191 1191).bind fun t273 => (some t273)) else (some false)))))) else (some false)))) else (some false)) else (some false)) else (some false)) else (some false)) else (some false)))))))) else (none)))))))) = some r := by first | (rw [hy189]; with_reducible exact H) | (have H2_ := (Option.bind_some _ _).symm.trans H; rw [hy189]; with_reducible exact H2_) | (have H2_ := (Option.bind_some _ _).symm.trans H; with_reducible exact H2_) | with_reducible exact H | (rw [hy189]; exact H) | exact H
 have Ny189 := Aside0.mk hy189
 clear hy189
 have Ky189 := Aside0.mk (show y189 = [(⟨1, 7, 0, 1440, 100, 0, 0⟩ : S26), (⟨2, 7, 0, 1440, 3333, 0, 0⟩ : S26), (⟨3, 7, 0, 1440, 10, 25, 5⟩ : S26), (⟨4, 7, 0, 650, 7, 15, 0⟩ : S26), (⟨2, 2, 0, 1440, 40, 0, 0⟩ : S26)] by first | (rw [Ny189.out]; done) | (rw [Ny189.out]; kernel_rfl))
 replace H := Option.bind_eq_some_iff.mp H
 obtain ⟨⟨t192, t193⟩, A60, H⟩ := H
 have EA6 := Option.some.inj (A60.symm.trans (show (chargeparklaw33_tariffOf.f y189) = some ((⟨#[116]⟩ : ByteArray), [(⟨1, 7, 0, 1440, 100, 0, 0⟩ : S26), (⟨2, 7, 0, 1440, 3333, 0, 0⟩ : S26), (⟨3, 7, 0, 1440, 10, 25, 5⟩ : S26), (⟨4, 7, 0, 650, 7, 15, 0⟩ : S26), (⟨2, 2, 0, 1440, 40, 0, 0⟩ : S26)]) by (simp only [Ky189.out]; first | done | kernel_rfl)))
 simp only [Prod.mk.injEq] at EA6
 obtain ⟨e_t192, e_t193⟩ := EA6
 have Kt192 := Aside0.mk e_t192
 clear e_t192
 have Kt193 := Aside0.mk e_t193
 clear e_t193
 have A6 := Aside0.mk A60
 clear A60
 replace H := Option.bind_eq_some_iff.mp H
 obtain ⟨⟨t197, t198, t199, t200⟩, A70, H⟩ := H
 have EA7 := Option.some.inj (A70.symm.trans (show (chargeparklaw33_example.f) = some (600, 660, 640, [(⟨610, 5000⟩ : S50)]) by kernel_rfl))
 simp only [Prod.mk.injEq] at EA7
 obtain ⟨e_t197, e_t198, e_t199, e_t200⟩ := EA7
 subst e_t197 e_t198 e_t199
 have Kt200 := Aside0.mk e_t200
 clear e_t200
 have A7 := Aside0.mk A70
 clear A70
 replace H := Option.bind_eq_some_iff.mp H
 obtain ⟨⟨t203, t206, t207, t208, t209⟩, A80, H⟩ := H
 have EA8 := Option.some.inj (A80.symm.trans (show (bill_Bill.f t192 t193 0 ([] : List (S99)) ([] : List Int) 600 660 640 t200) = some ([(⟨0, 100⟩ : S48), (⟨1, 16665⟩ : S48), (⟨2, 30⟩ : S48), (⟨3, 7⟩ : S48), (⟨4, 0⟩ : S48)], 16802, 0, 16802, 0) by (simp only [Kt192.out, Kt193.out, Kt200.out]; first | done | kernel_rfl)))
 simp only [Prod.mk.injEq] at EA8
 obtain ⟨e_t203, e_t206, e_t207, e_t208, e_t209⟩ := EA8
 have Kt203 := Aside0.mk e_t203
 clear e_t203
 subst e_t206 e_t207 e_t208 e_t209
 have A8 := Aside0.mk A80
 clear A80
 replace H := Option.bind_eq_some_iff.mp H
 obtain ⟨⟨t211, t212, t213, t214, t215, t216, t217⟩, A90, H⟩ := H
 have EA9 := Option.some.inj (A90.symm.trans (show (chargeparklaw33_article.f 5 1000 0 0) = some (5, 7, 0, 1440, 1000, 0, 0) by kernel_rfl))
 simp only [Prod.mk.injEq] at EA9
 obtain ⟨e_t211, e_t212, e_t213, e_t214, e_t215, e_t216, e_t217⟩ := EA9
 subst e_t211 e_t212 e_t213 e_t214 e_t215 e_t216 e_t217
 have A9 := Aside0.mk A90
 clear A90
 replace H := Option.bind_eq_some_iff.mp H
 obtain ⟨⟨t218, t219, t220, t221, t222, t223, t224⟩, A100, H⟩ := H
 have EA10 := Option.some.inj (A100.symm.trans (show (chargeparklaw33_article.f 6 1905 0 0) = some (6, 7, 0, 1440, 1905, 0, 0) by kernel_rfl))
 simp only [Prod.mk.injEq] at EA10
 obtain ⟨e_t218, e_t219, e_t220, e_t221, e_t222, e_t223, e_t224⟩ := EA10
 subst e_t218 e_t219 e_t220 e_t221 e_t222 e_t223 e_t224
 have A10 := Aside0.mk A100
 clear A100
 obtain ⟨y225, hy225⟩ : ∃ y_ : List (S26), y_ = (([(⟨5, 7, 0, 1440, 1000, 0, 0⟩ : S26), (⟨6, 7, 0, 1440, 1905, 0, 0⟩ : S26)] : List (S26))) := ⟨_, rfl⟩
 replace H : (if t193.length + y225.length < 2513169434916 then ((some (t193 ++ y225 : List (S26))).bind fun y228 => ((chargeparklaw33_example.f).bind fun bt231 => ((bill_Bill.f t192 y228 0 ([] : List (S99)) ([] : List Int) bt231.1 bt231.2.1 bt231.2.2.1 bt231.2.2.2).bind fun bt237 => ((bill_Bill.f t192 y228 0 ([] : List (S99)) ([] : List Int) 0 0 0 ([] : List (S50))).bind fun bt245 => ((chargeparklaw33_example.f).bind fun bt253 => ((bill_Line.f 4 7 0 650 7 15 0 0 ([] : List (S99)) ([] : List Int) bt253.1 bt253.2.1 bt253.2.2.1 bt253.2.2.2).bind fun bt259 => (if 0 = 0 then (if bt237.2.2.2.2 = 0 then (if bt245.2.2.2.2 = 1 then (if bt259.2 = 0 then (if bt259.1 = 7 then ((chargeparklaw33_example.f).bind fun bt261 => ((bill_Valid.f 100 bt261.1 bt261.2.1 bt261.2.2.1 bt261.2.2.2).bind fun t267 => (if t267 = true then ((bill_Valid.f 100 0 0 0 ([] : List (S50))).bind fun t268 => ((some (([(⟨0, 100⟩ : S48), (⟨1, 16665⟩ : S48), (⟨2, 30⟩ : S48), (⟨3, 7⟩ : S48), (⟨4, 0⟩ : S48)] : List (S48)) : List (S48))).bind fun y269 => (if t268 = true then (some false) else ((chargeparkref33_Same.f 100 t203 16802 0 16802 y269 16802 0 16802).bind fun t272 => (if t272 = true then ((chargeparkref33_Same.f 100 bt237.1 bt237.2.1 bt237.2.2.1 bt237.2.2.2.1 y269 1000 191 1191).bind fun t273 => (some t273)) else (some false)))))) else (some false)))) else (some false)) else (some false)) else (some false)) else (some false)) else (some false)))))))) else (none)) = some r := by first | (rw [hy225]; with_reducible exact H) | (have H2_ := (Option.bind_some _ _).symm.trans H; rw [hy225]; with_reducible exact H2_) | (have H2_ := (Option.bind_some _ _).symm.trans H; with_reducible exact H2_) | with_reducible exact H | (rw [hy225]; exact H) | exact H
 have Ny225 := Aside0.mk hy225
 clear hy225
 have Ky225 := Aside0.mk (show y225 = [(⟨5, 7, 0, 1440, 1000, 0, 0⟩ : S26), (⟨6, 7, 0, 1440, 1905, 0, 0⟩ : S26)] by first | (rw [Ny225.out]; done) | (rw [Ny225.out]; kernel_rfl))
 have c11 : (t193.length + y225.length < 2513169434916) := by (simp only [Kt193.out, Ky225.out]; first | done | decide)
 ·rw [if_pos c11] at H
  have LMc11 := Aside0.mk c11
  clear c11
  obtain ⟨y228, hy228⟩ : ∃ y_ : List (S26), y_ = (t193 ++ y225) := ⟨_, rfl⟩
  replace H : ((chargeparklaw33_example.f).bind fun bt231 => ((bill_Bill.f t192 y228 0 ([] : List (S99)) ([] : List Int) bt231.1 bt231.2.1 bt231.2.2.1 bt231.2.2.2).bind fun bt237 => ((bill_Bill.f t192 y228 0 ([] : List (S99)) ([] : List Int) 0 0 0 ([] : List (S50))).bind fun bt245 => ((chargeparklaw33_example.f).bind fun bt253 => ((bill_Line.f 4 7 0 650 7 15 0 0 ([] : List (S99)) ([] : List Int) bt253.1 bt253.2.1 bt253.2.2.1 bt253.2.2.2).bind fun bt259 => (if 0 = 0 then (if bt237.2.2.2.2 = 0 then (if bt245.2.2.2.2 = 1 then (if bt259.2 = 0 then (if bt259.1 = 7 then ((chargeparklaw33_example.f).bind fun bt261 => ((bill_Valid.f 100 bt261.1 bt261.2.1 bt261.2.2.1 bt261.2.2.2).bind fun t267 => (if t267 = true then ((bill_Valid.f 100 0 0 0 ([] : List (S50))).bind fun t268 => ((some (([(⟨0, 100⟩ : S48), (⟨1, 16665⟩ : S48), (⟨2, 30⟩ : S48), (⟨3, 7⟩ : S48), (⟨4, 0⟩ : S48)] : List (S48)) : List (S48))).bind fun y269 => (if t268 = true then (some false) else ((chargeparkref33_Same.f 100 t203 16802 0 16802 y269 16802 0 16802).bind fun t272 => (if t272 = true then ((chargeparkref33_Same.f 100 bt237.1 bt237.2.1 bt237.2.2.1 bt237.2.2.2.1 y269 1000 191 1191).bind fun t273 => (some t273)) else (some false)))))) else (some false)))) else (some false)) else (some false)) else (some false)) else (some false)) else (some false))))))) = some r := by first | (rw [hy228]; with_reducible exact H) | (have H2_ := (Option.bind_some _ _).symm.trans H; rw [hy228]; with_reducible exact H2_) | (have H2_ := (Option.bind_some _ _).symm.trans H; with_reducible exact H2_) | with_reducible exact H | (rw [hy228]; exact H) | exact H
  have Ny228 := Aside0.mk hy228
  clear hy228
  have Ky228 := Aside0.mk (show y228 = [(⟨1, 7, 0, 1440, 100, 0, 0⟩ : S26), (⟨2, 7, 0, 1440, 3333, 0, 0⟩ : S26), (⟨3, 7, 0, 1440, 10, 25, 5⟩ : S26), (⟨4, 7, 0, 650, 7, 15, 0⟩ : S26), (⟨2, 2, 0, 1440, 40, 0, 0⟩ : S26), (⟨5, 7, 0, 1440, 1000, 0, 0⟩ : S26), (⟨6, 7, 0, 1440, 1905, 0, 0⟩ : S26)] by first | (rw [Ny228.out]; done) | (rw [Ny228.out]; (simp only [Kt193.out, Ky225.out]; first | done | kernel_rfl)))
  replace H := Option.bind_eq_some_iff.mp H
  obtain ⟨⟨t231, t232, t233, t234⟩, A120, H⟩ := H
  have EA12 := Option.some.inj (A120.symm.trans (show (chargeparklaw33_example.f) = some (600, 660, 640, [(⟨610, 5000⟩ : S50)]) by kernel_rfl))
  simp only [Prod.mk.injEq] at EA12
  obtain ⟨e_t231, e_t232, e_t233, e_t234⟩ := EA12
  subst e_t231 e_t232 e_t233
  have Kt234 := Aside0.mk e_t234
  clear e_t234
  have A12 := Aside0.mk A120
  clear A120
  replace H := Option.bind_eq_some_iff.mp H
  obtain ⟨⟨t237, t240, t241, t242, t243⟩, A130, H⟩ := H
  have EA13 := Option.some.inj (A130.symm.trans (show (bill_Bill.f t192 y228 0 ([] : List (S99)) ([] : List Int) 600 660 640 t234) = some ([(⟨0, 100⟩ : S48), (⟨1, 16665⟩ : S48), (⟨2, 30⟩ : S48), (⟨3, 7⟩ : S48), (⟨4, 0⟩ : S48)], 1000, 191, 1191, 0) by (simp only [Kt192.out, Ky228.out, Kt234.out]; first | done | kernel_rfl)))
  simp only [Prod.mk.injEq] at EA13
  obtain ⟨e_t237, e_t240, e_t241, e_t242, e_t243⟩ := EA13
  have Kt237 := Aside0.mk e_t237
  clear e_t237
  subst e_t240 e_t241 e_t242 e_t243
  have A13 := Aside0.mk A130
  clear A130
  replace H := Option.bind_eq_some_iff.mp H
  obtain ⟨⟨t245, t248, t249, t250, t251⟩, A140, H⟩ := H
  have EA14 := Option.some.inj (A140.symm.trans (show (bill_Bill.f t192 y228 0 ([] : List (S99)) ([] : List Int) 0 0 0 ([] : List (S50))) = some ([], 0, 0, 0, 1) by (simp only [Kt192.out, Ky228.out]; first | done | kernel_rfl)))
  simp only [Prod.mk.injEq] at EA14
  obtain ⟨e_t245, e_t248, e_t249, e_t250, e_t251⟩ := EA14
  have Kt245 := Aside0.mk e_t245
  clear e_t245
  subst e_t248 e_t249 e_t250 e_t251
  have A14 := Aside0.mk A140
  clear A140
  replace H := Option.bind_eq_some_iff.mp H
  obtain ⟨⟨t253, t254, t255, t256⟩, A150, H⟩ := H
  have EA15 := Option.some.inj (A150.symm.trans (show (chargeparklaw33_example.f) = some (600, 660, 640, [(⟨610, 5000⟩ : S50)]) by kernel_rfl))
  simp only [Prod.mk.injEq] at EA15
  obtain ⟨e_t253, e_t254, e_t255, e_t256⟩ := EA15
  subst e_t253 e_t254 e_t255
  have Kt256 := Aside0.mk e_t256
  clear e_t256
  have A15 := Aside0.mk A150
  clear A150
  replace H := Option.bind_eq_some_iff.mp H
  obtain ⟨⟨t259, t260⟩, A160, H⟩ := H
  replace H : (if 0 = 0 then (if 0 = 0 then (if 1 = 1 then (if t260 = 0 then (if t259 = 7 then ((chargeparklaw33_example.f).bind fun bt261 => ((bill_Valid.f 100 bt261.1 bt261.2.1 bt261.2.2.1 bt261.2.2.2).bind fun t267 => (if t267 = true then ((bill_Valid.f 100 0 0 0 ([] : List (S50))).bind fun t268 => ((some (([(⟨0, 100⟩ : S48), (⟨1, 16665⟩ : S48), (⟨2, 30⟩ : S48), (⟨3, 7⟩ : S48), (⟨4, 0⟩ : S48)] : List (S48)) : List (S48))).bind fun y269 => (if t268 = true then (some false) else ((chargeparkref33_Same.f 100 t203 16802 0 16802 y269 16802 0 16802).bind fun t272 => (if t272 = true then ((chargeparkref33_Same.f 100 t237 1000 191 1191 y269 1000 191 1191).bind fun t273 => (some t273)) else (some false)))))) else (some false)))) else (some false)) else (some false)) else (some false)) else (some false)) else (some false)) = some r := H
  have EA16 := Option.some.inj (A160.symm.trans (show (bill_Line.f 4 7 0 650 7 15 0 0 ([] : List (S99)) ([] : List Int) 600 660 640 t256) = some (7, 0) by (simp only [Kt256.out]; first | done | kernel_rfl)))
  simp only [Prod.mk.injEq] at EA16
  obtain ⟨e_t259, e_t260⟩ := EA16
  subst e_t259 e_t260
  replace H : (if 0 = 0 then (if 0 = 0 then (if 1 = 1 then (if 0 = 0 then (if 7 = 7 then ((chargeparklaw33_example.f).bind fun bt261 => ((bill_Valid.f 100 bt261.1 bt261.2.1 bt261.2.2.1 bt261.2.2.2).bind fun t267 => (if t267 = true then ((bill_Valid.f 100 0 0 0 ([] : List (S50))).bind fun t268 => ((some (([(⟨0, 100⟩ : S48), (⟨1, 16665⟩ : S48), (⟨2, 30⟩ : S48), (⟨3, 7⟩ : S48), (⟨4, 0⟩ : S48)] : List (S48)) : List (S48))).bind fun y269 => (if t268 = true then (some false) else ((chargeparkref33_Same.f 100 t203 16802 0 16802 y269 16802 0 16802).bind fun t272 => (if t272 = true then ((chargeparkref33_Same.f 100 t237 1000 191 1191 y269 1000 191 1191).bind fun t273 => (some t273)) else (some false)))))) else (some false)))) else (some false)) else (some false)) else (some false)) else (some false)) else (some false)) = some r := H
  have A16 := Aside0.mk A160
  clear A160
  have c17 : (0 = 0) := by decide
  ·rw [if_pos c17] at H
   have c17b0 : (0 == 0) = true := beq_iff_eq.mpr c17
   have c17b1 : (0 != 0) = false := bne_eq_false_iff_eq.mpr c17
   clear c17
   have c18 : (0 = 0) := by decide
   ·rw [if_pos c18] at H
    have c18b0 : (0 == 0) = true := beq_iff_eq.mpr c18
    have c18b1 : (0 != 0) = false := bne_eq_false_iff_eq.mpr c18
    clear c18
    have c19 : (1 = 1) := by decide
    ·rw [if_pos c19] at H
     have c19b0 : (1 == 1) = true := beq_iff_eq.mpr c19
     have c19b1 : (1 != 1) = false := bne_eq_false_iff_eq.mpr c19
     clear c19
     have c20 : (0 = 0) := by decide
     ·rw [if_pos c20] at H
      have c20b0 : (0 == 0) = true := beq_iff_eq.mpr c20
      have c20b1 : (0 != 0) = false := bne_eq_false_iff_eq.mpr c20
      clear c20
      have c21 : (7 = 7) := by decide
      ·rw [if_pos c21] at H
       have c21b0 : (7 == 7) = true := beq_iff_eq.mpr c21
       have c21b1 : (7 != 7) = false := bne_eq_false_iff_eq.mpr c21
       clear c21
       replace H := Option.bind_eq_some_iff.mp H
       obtain ⟨⟨t261, t262, t263, t264⟩, A220, H⟩ := H
       have EA22 := Option.some.inj (A220.symm.trans (show (chargeparklaw33_example.f) = some (600, 660, 640, [(⟨610, 5000⟩ : S50)]) by kernel_rfl))
       simp only [Prod.mk.injEq] at EA22
       obtain ⟨e_t261, e_t262, e_t263, e_t264⟩ := EA22
       subst e_t261 e_t262 e_t263
       have Kt264 := Aside0.mk e_t264
       clear e_t264
       have A22 := Aside0.mk A220
       clear A220
       replace H := Option.bind_eq_some_iff.mp H
       obtain ⟨t267, A230, H⟩ := H
       replace H : (if t267 = true then ((bill_Valid.f 100 0 0 0 ([] : List (S50))).bind fun t268 => ((some (([(⟨0, 100⟩ : S48), (⟨1, 16665⟩ : S48), (⟨2, 30⟩ : S48), (⟨3, 7⟩ : S48), (⟨4, 0⟩ : S48)] : List (S48)) : List (S48))).bind fun y269 => (if t268 = true then (some false) else ((chargeparkref33_Same.f 100 t203 16802 0 16802 y269 16802 0 16802).bind fun t272 => (if t272 = true then ((chargeparkref33_Same.f 100 t237 1000 191 1191 y269 1000 191 1191).bind fun t273 => (some t273)) else (some false)))))) else (some false)) = some r := H
       have EA23 := Option.some.inj (A230.symm.trans (show (bill_Valid.f 100 600 660 640 t264) = some true by (simp only [Kt264.out]; first | done | kernel_rfl)))
       have e_t267 := EA23
       clear EA23
       subst e_t267
       replace H : (if true = true then ((bill_Valid.f 100 0 0 0 ([] : List (S50))).bind fun t268 => ((some (([(⟨0, 100⟩ : S48), (⟨1, 16665⟩ : S48), (⟨2, 30⟩ : S48), (⟨3, 7⟩ : S48), (⟨4, 0⟩ : S48)] : List (S48)) : List (S48))).bind fun y269 => (if t268 = true then (some false) else ((chargeparkref33_Same.f 100 t203 16802 0 16802 y269 16802 0 16802).bind fun t272 => (if t272 = true then ((chargeparkref33_Same.f 100 t237 1000 191 1191 y269 1000 191 1191).bind fun t273 => (some t273)) else (some false)))))) else (some false)) = some r := H
       have A23 := Aside0.mk A230
       clear A230
       have c24 : (true = true) := by decide
       ·rw [if_pos c24] at H
        have c24b0 : true = true := c24
        clear c24
        replace H := Option.bind_eq_some_iff.mp H
        obtain ⟨t268, A250, H⟩ := H
        have EA25 := Option.some.inj (A250.symm.trans (show (bill_Valid.f 100 0 0 0 ([] : List (S50))) = some false by kernel_rfl))
        have e_t268 := EA25
        clear EA25
        subst e_t268
        have A25 := Aside0.mk A250
        clear A250
        obtain ⟨y269, hy269⟩ : ∃ y_ : List (S48), y_ = (([(⟨0, 100⟩ : S48), (⟨1, 16665⟩ : S48), (⟨2, 30⟩ : S48), (⟨3, 7⟩ : S48), (⟨4, 0⟩ : S48)] : List (S48))) := ⟨_, rfl⟩
        replace H : (if false = true then (some false) else ((chargeparkref33_Same.f 100 t203 16802 0 16802 y269 16802 0 16802).bind fun t272 => (if t272 = true then ((chargeparkref33_Same.f 100 t237 1000 191 1191 y269 1000 191 1191).bind fun t273 => (some t273)) else (some false)))) = some r := by first | (rw [hy269]; with_reducible exact H) | (have H2_ := (Option.bind_some _ _).symm.trans H; rw [hy269]; with_reducible exact H2_) | (have H2_ := (Option.bind_some _ _).symm.trans H; with_reducible exact H2_) | with_reducible exact H | (rw [hy269]; exact H) | exact H
        have Ny269 := Aside0.mk hy269
        clear hy269
        have Ky269 := Aside0.mk (show y269 = [(⟨0, 100⟩ : S48), (⟨1, 16665⟩ : S48), (⟨2, 30⟩ : S48), (⟨3, 7⟩ : S48), (⟨4, 0⟩ : S48)] by first | (rw [Ny269.out]; done) | (rw [Ny269.out]; kernel_rfl))
        have c26 : ¬ (false = true) := by decide
        ·rw [if_neg c26] at H
         have c26b0 : false = false := rfl
         clear c26
         replace H := Option.bind_eq_some_iff.mp H
         obtain ⟨t272, A270, H⟩ := H
         replace H : (if t272 = true then ((chargeparkref33_Same.f 100 t237 1000 191 1191 y269 1000 191 1191).bind fun t273 => (some t273)) else (some false)) = some r := H
         have EA27 := Option.some.inj (A270.symm.trans (show (chargeparkref33_Same.f 100 t203 16802 0 16802 y269 16802 0 16802) = some true by (simp only [Kt203.out, Ky269.out]; first | done | kernel_rfl)))
         have e_t272 := EA27
         clear EA27
         subst e_t272
         replace H : (if true = true then ((chargeparkref33_Same.f 100 t237 1000 191 1191 y269 1000 191 1191).bind fun t273 => (some t273)) else (some false)) = some r := H
         have A27 := Aside0.mk A270
         clear A270
         have c28 : (true = true) := by decide
         ·rw [if_pos c28] at H
          have c28b0 : true = true := c28
          clear c28
          replace H := Option.bind_eq_some_iff.mp H
          obtain ⟨t273, A290, H⟩ := H
          have EA29 := Option.some.inj (A290.symm.trans (show (chargeparkref33_Same.f 100 t237 1000 191 1191 y269 1000 191 1191) = some true by (simp only [Kt237.out, Ky269.out]; first | done | kernel_rfl)))
          have e_t273 := EA29
          clear EA29
          subst e_t273
          have A29 := Aside0.mk A290
          clear A290
          obtain rfl := Option.some.inj H
          go_enter Try.func25, Try.ntmps25
          try go_wp2_with (first | ((with_reducible refine gate_dst (N := 1) rfl ?_); refine box_event ?hg (N := 1) ?hd (cs := #[.int .i64 0, .slice none 0 0, .slice none 0 0]) (t := 30) ?hr ?_; (case hd => rfl); (case hg => rfl); (case hr => first | (go_simp; done) | (go_simp; rfl)); intro gb151 hg w30 hbox hb; have n0_ := Aside0.mk (below_step (hb_ HB) hb); have n1_ := Aside0.mk (hbox); have n2_ := Aside0.mk ((by rw [hg]; exact (below_size (hb_ HB)) : w.heap.size ≤ gb151)); have n3_ := Aside0.mk ((by rw [hg]; exact (below_size (hb_ HB)) : w.heap.size ≤ gb151)); clear HB; have HB := n0_; have BK151 := n1_; have GW151 := n2_; have GE151 := n3_; clear n0_ n1_ n2_ n3_; clear hb hbox hg) | ((with_reducible refine gate_callee (f := 35) rfl ?_); refine goesL_ (some 15) rfl rfl Try.func35 (by kernel_rfl) rfl #[.int .i64 4, .int .i64 7, .int .i64 15, .int .i64 0] rfl mp_ ?_; (with_reducible refine (chargeparklaw33_article.calls 4 7 15 0 4 7 0 1440 7 15 0 _ A1.out).mono ?_); rintro e w31 ⟨rfl, hb⟩; refine ⟨_, rfl, ?_⟩; have n0_ := (bb_ BK151 hb); have n1_ := Aside0.mk (below_step (hb_ HB) hb); clear BK151; clear HB; have BK151 := n0_; have HB := n1_; clear n0_ n1_; (try clear hb); (try clear hb2); (try clear hk); (try clear hi)) | ((with_reducible refine gate_dst (N := 2) rfl ?_); refine box_event ?hg (N := 2) ?hd (cs := #[.int .i64 0, .int .i64 0, .int .i64 0, .int .i64 0, .int .i64 0, .int .i64 0, .int .i64 0]) (t := 26) ?hr ?_; (case hd => rfl); (case hg => rfl); (case hr => first | (go_simp; done) | (go_simp; rfl)); intro gb159 hg w32 hbox hb; have n0_ := (bb_ BK151 hb); have n1_ := Aside0.mk (below_step (hb_ HB) hb); have n2_ := Aside0.mk (hbox); have n3_ := Aside0.mk ((by rw [hg]; exact (below_size (hb_ HB)) : w.heap.size ≤ gb159)); have n4_ := Aside0.mk ((by rw [hg]; exact (below_size (hb_ HB)) : w.heap.size ≤ gb159)); have n5_ := (nlt_ BK151 hg); have n6_ := (ngt_ BK151 hg); clear BK151; clear HB; have BK151 := n0_; have HB := n1_; have BK159 := n2_; have GW159 := n3_; have GE159 := n4_; have NB151_159 := n5_; have NB159_151 := n6_; clear n0_ n1_ n2_ n3_ n4_ n5_ n6_; clear hb hbox hg; have hnb33 := NB159_151.out; have hnc33 := NB151_159.out; have hcz34_0 : w32.cell? ⟨gb159, 0, none⟩ = some (.int .i64 0) := bc_ BK159 0; have hcz34_1 : w32.cell? ⟨gb159, 1, none⟩ = some (.int .i64 0) := bc_ BK159 1; have hcz34_2 : w32.cell? ⟨gb159, 2, none⟩ = some (.int .i64 0) := bc_ BK159 2; have hcz34_3 : w32.cell? ⟨gb159, 3, none⟩ = some (.int .i64 0) := bc_ BK159 3; have hcz34_4 : w32.cell? ⟨gb159, 4, none⟩ = some (.int .i64 0) := bc_ BK159 4; have hcz34_5 : w32.cell? ⟨gb159, 5, none⟩ = some (.int .i64 0) := bc_ BK159 5; have hcz34_6 : w32.cell? ⟨gb159, 6, none⟩ = some (.int .i64 0) := bc_ BK159 6; have hfz34_0 := blk_frozen BK159.out 0; have hfz34_1 := blk_frozen BK159.out 1; have hfz34_2 := blk_frozen BK159.out 2; have hfz34_3 := blk_frozen BK159.out 3; have hfz34_4 := blk_frozen BK159.out 4; have hfz34_5 := blk_frozen BK159.out 5; have hfz34_6 := blk_frozen BK159.out 6) | ((with_reducible refine gate_callee (f := 35) rfl ?_); refine goesL_ (some 17) rfl rfl Try.func35 (by kernel_rfl) rfl #[.int .i64 2, .int .i64 40, .int .i64 0, .int .i64 0] rfl mp_ ?_; (with_reducible refine (chargeparklaw33_article.calls 2 40 0 0 2 7 0 1440 40 0 0 _ A2.out).mono ?_); rintro e w35 ⟨rfl, hb⟩; refine ⟨_, rfl, ?_⟩; have n0_ := Aside0.mk (blk_below (g := gb151) (o := .cells #[.int .i64 0, .slice none 0 0, .slice none 0 0] 30 (0, 0)) (by (with_reducible repeat (first | refine blk_drewN ?_ _ | refine blk_drew ?_ | refine blk_alloc ?_ _)); refine blk_far ?_ NB151_159.out _; (with_reducible repeat (first | refine blk_drewN ?_ _ | refine blk_drew ?_ | refine blk_alloc ?_ _)); refine blk_far ?_ NB151_159.out _; (with_reducible repeat (first | refine blk_drewN ?_ _ | refine blk_drew ?_ | refine blk_alloc ?_ _)); refine blk_far ?_ NB151_159.out _; (with_reducible repeat (first | refine blk_drewN ?_ _ | refine blk_drew ?_ | refine blk_alloc ?_ _)); refine blk_far ?_ NB151_159.out _; (with_reducible repeat (first | refine blk_drewN ?_ _ | refine blk_drew ?_ | refine blk_alloc ?_ _)); refine blk_far ?_ NB151_159.out _; (with_reducible repeat (first | refine blk_drewN ?_ _ | refine blk_drew ?_ | refine blk_alloc ?_ _)); refine blk_far ?_ NB151_159.out _; (with_reducible repeat (first | refine blk_drewN ?_ _ | refine blk_drew ?_ | refine blk_alloc ?_ _)); refine blk_far ?_ NB151_159.out _; (with_reducible repeat (first | refine blk_drewN ?_ _ | refine blk_drew ?_ | refine blk_alloc ?_ _)); refine blk_far ?_ NB151_159.out _; (with_reducible repeat (first | refine blk_drewN ?_ _ | refine blk_drew ?_ | refine blk_alloc ?_ _)); exact BK151.out) hb); have n1_ := Aside0.mk (blk_below (g := gb159) (o := .cells #[.int .i64 4, .int .i64 7, .int .i64 0, .int .i64 650, .int .i64 7, .int .i64 15, .int .i64 0] 26 (0, 0)) (by (with_reducible repeat (first | refine blk_drewN ?_ _ | refine blk_drew ?_ | refine blk_alloc ?_ _)); refine blk_put (cs := #[.int .i64 4, .int .i64 7, .int .i64 0, .int .i64 1440, .int .i64 7, .int .i64 15, .int .i64 0]) ?_ 3 _ rfl; (with_reducible repeat (first | refine blk_drewN ?_ _ | refine blk_drew ?_ | refine blk_alloc ?_ _)); refine blk_put (cs := #[.int .i64 4, .int .i64 7, .int .i64 0, .int .i64 1440, .int .i64 7, .int .i64 15, .int .i64 0]) ?_ 6 _ rfl; (with_reducible repeat (first | refine blk_drewN ?_ _ | refine blk_drew ?_ | refine blk_alloc ?_ _)); refine blk_put (cs := #[.int .i64 4, .int .i64 7, .int .i64 0, .int .i64 1440, .int .i64 7, .int .i64 0, .int .i64 0]) ?_ 5 _ rfl; (with_reducible repeat (first | refine blk_drewN ?_ _ | refine blk_drew ?_ | refine blk_alloc ?_ _)); refine blk_put (cs := #[.int .i64 4, .int .i64 7, .int .i64 0, .int .i64 1440, .int .i64 0, .int .i64 0, .int .i64 0]) ?_ 4 _ rfl; (with_reducible repeat (first | refine blk_drewN ?_ _ | refine blk_drew ?_ | refine blk_alloc ?_ _)); refine blk_put (cs := #[.int .i64 4, .int .i64 7, .int .i64 0, .int .i64 0, .int .i64 0, .int .i64 0, .int .i64 0]) ?_ 3 _ rfl; (with_reducible repeat (first | refine blk_drewN ?_ _ | refine blk_drew ?_ | refine blk_alloc ?_ _)); refine blk_put (cs := #[.int .i64 4, .int .i64 7, .int .i64 0, .int .i64 0, .int .i64 0, .int .i64 0, .int .i64 0]) ?_ 2 _ rfl; (with_reducible repeat (first | refine blk_drewN ?_ _ | refine blk_drew ?_ | refine blk_alloc ?_ _)); refine blk_put (cs := #[.int .i64 4, .int .i64 0, .int .i64 0, .int .i64 0, .int .i64 0, .int .i64 0, .int .i64 0]) ?_ 1 _ rfl; (with_reducible repeat (first | refine blk_drewN ?_ _ | refine blk_drew ?_ | refine blk_alloc ?_ _)); refine blk_put (cs := #[.int .i64 0, .int .i64 0, .int .i64 0, .int .i64 0, .int .i64 0, .int .i64 0, .int .i64 0]) ?_ 0 _ rfl; (with_reducible repeat (first | refine blk_drewN ?_ _ | refine blk_drew ?_ | refine blk_alloc ?_ _)); exact BK159.out) hb); have n2_ := Aside0.mk (below_step (hb_ HB) hb); clear BK151; clear BK159; clear HB; have BK151 := n0_; have BK159 := n1_; have HB := n2_; clear n0_ n1_ n2_; (try clear hb); (try clear hb2); (try clear hk); (try clear hi)) | ((with_reducible refine gate_dst (N := 3) rfl ?_); refine box_event ?hg (N := 3) ?hd (cs := #[.int .i64 0, .int .i64 0, .int .i64 0, .int .i64 0, .int .i64 0, .int .i64 0, .int .i64 0]) (t := 26) ?hr ?_; (case hd => rfl); (case hg => rfl); (case hr => first | (go_simp; done) | (go_simp; rfl)); intro gb167 hg w36 hbox hb; have n0_ := (bb_ BK151 hb); have n1_ := (bb_ BK159 hb); have n2_ := Aside0.mk (below_step (hb_ HB) hb); have n3_ := Aside0.mk (hbox); have n4_ := Aside0.mk ((by rw [hg]; exact (below_size (hb_ HB)) : w.heap.size ≤ gb167)); have n5_ := Aside0.mk ((by rw [hg]; exact (below_size (hb_ HB)) : w.heap.size ≤ gb167)); have n6_ := (nlt_ BK151 hg); have n7_ := (ngt_ BK151 hg); have n8_ := (nlt_ BK159 hg); have n9_ := (ngt_ BK159 hg); clear BK151; clear BK159; clear HB; have BK151 := n0_; have BK159 := n1_; have HB := n2_; have BK167 := n3_; have GW167 := n4_; have GE167 := n5_; have NB151_167 := n6_; have NB167_151 := n7_; have NB159_167 := n8_; have NB167_159 := n9_; clear n0_ n1_ n2_ n3_ n4_ n5_ n6_ n7_ n8_ n9_; clear hb hbox hg; have hnb37 := NB167_151.out; have hnc37 := NB151_167.out; have hnb38 := NB167_159.out; have hnc38 := NB159_167.out; have hcz39_0 : w36.cell? ⟨gb167, 0, none⟩ = some (.int .i64 0) := bc_ BK167 0; have hcz39_1 : w36.cell? ⟨gb167, 1, none⟩ = some (.int .i64 0) := bc_ BK167 1; have hcz39_2 : w36.cell? ⟨gb167, 2, none⟩ = some (.int .i64 0) := bc_ BK167 2; have hcz39_3 : w36.cell? ⟨gb167, 3, none⟩ = some (.int .i64 0) := bc_ BK167 3; have hcz39_4 : w36.cell? ⟨gb167, 4, none⟩ = some (.int .i64 0) := bc_ BK167 4; have hcz39_5 : w36.cell? ⟨gb167, 5, none⟩ = some (.int .i64 0) := bc_ BK167 5; have hcz39_6 : w36.cell? ⟨gb167, 6, none⟩ = some (.int .i64 0) := bc_ BK167 6; have hfz39_0 := blk_frozen BK167.out 0; have hfz39_1 := blk_frozen BK167.out 1; have hfz39_2 := blk_frozen BK167.out 2; have hfz39_3 := blk_frozen BK167.out 3; have hfz39_4 := blk_frozen BK167.out 4; have hfz39_5 := blk_frozen BK167.out 5; have hfz39_6 := blk_frozen BK167.out 6))
          obtain ⟨w40, hww⟩ : ∃ w_, ((((((((w36.setCell ⟨gb167, 0, none⟩ (.int .i64 2)).setCell ⟨gb167, 1, none⟩ (.int .i64 7)).setCell ⟨gb167, 2, none⟩ (.int .i64 0)).setCell ⟨gb167, 3, none⟩ (.int .i64 1440)).setCell ⟨gb167, 4, none⟩ (.int .i64 40)).setCell ⟨gb167, 5, none⟩ (.int .i64 0)).setCell ⟨gb167, 6, none⟩ (.int .i64 0)).setCell ⟨gb167, 1, none⟩ (.int .i64 2)) = w_ := ⟨_, rfl⟩
          have n0_ := bf_ BK151 hww
          have n1_ := bf_ BK159 hww
          have n2_ : Aside0 (w40.heap[gb167]? = some (.cells #[.int .i64 2, .int .i64 2, .int .i64 0, .int .i64 1440, .int .i64 40, .int .i64 0, .int .i64 0] 26 (0, 0))) := ⟨by rw [← hww]; (with_reducible repeat (first | refine blk_drewN ?_ _ | refine blk_drew ?_ | refine blk_alloc ?_ _)); refine blk_put (cs := #[.int .i64 2, .int .i64 7, .int .i64 0, .int .i64 1440, .int .i64 40, .int .i64 0, .int .i64 0]) ?_ 1 _ rfl; (with_reducible repeat (first | refine blk_drewN ?_ _ | refine blk_drew ?_ | refine blk_alloc ?_ _)); refine blk_put (cs := #[.int .i64 2, .int .i64 7, .int .i64 0, .int .i64 1440, .int .i64 40, .int .i64 0, .int .i64 0]) ?_ 6 _ rfl; (with_reducible repeat (first | refine blk_drewN ?_ _ | refine blk_drew ?_ | refine blk_alloc ?_ _)); refine blk_put (cs := #[.int .i64 2, .int .i64 7, .int .i64 0, .int .i64 1440, .int .i64 40, .int .i64 0, .int .i64 0]) ?_ 5 _ rfl; (with_reducible repeat (first | refine blk_drewN ?_ _ | refine blk_drew ?_ | refine blk_alloc ?_ _)); refine blk_put (cs := #[.int .i64 2, .int .i64 7, .int .i64 0, .int .i64 1440, .int .i64 0, .int .i64 0, .int .i64 0]) ?_ 4 _ rfl; (with_reducible repeat (first | refine blk_drewN ?_ _ | refine blk_drew ?_ | refine blk_alloc ?_ _)); refine blk_put (cs := #[.int .i64 2, .int .i64 7, .int .i64 0, .int .i64 0, .int .i64 0, .int .i64 0, .int .i64 0]) ?_ 3 _ rfl; (with_reducible repeat (first | refine blk_drewN ?_ _ | refine blk_drew ?_ | refine blk_alloc ?_ _)); refine blk_put (cs := #[.int .i64 2, .int .i64 7, .int .i64 0, .int .i64 0, .int .i64 0, .int .i64 0, .int .i64 0]) ?_ 2 _ rfl; (with_reducible repeat (first | refine blk_drewN ?_ _ | refine blk_drew ?_ | refine blk_alloc ?_ _)); refine blk_put (cs := #[.int .i64 2, .int .i64 0, .int .i64 0, .int .i64 0, .int .i64 0, .int .i64 0, .int .i64 0]) ?_ 1 _ rfl; (with_reducible repeat (first | refine blk_drewN ?_ _ | refine blk_drew ?_ | refine blk_alloc ?_ _)); refine blk_put (cs := #[.int .i64 0, .int .i64 0, .int .i64 0, .int .i64 0, .int .i64 0, .int .i64 0, .int .i64 0]) ?_ 0 _ rfl; (with_reducible repeat (first | refine blk_drewN ?_ _ | refine blk_drew ?_ | refine blk_alloc ?_ _)); exact BK167.out⟩
          have n3_ := bw_ HB hww
          (try clear BK151)
          (try clear BK159)
          (try clear BK167)
          (try clear HB)
          rw [hww]
          clear hww
          have BK151 := n0_
          have BK159 := n1_
          have BK167 := n2_
          have HB := n3_
          clear n0_ n1_ n2_ n3_
          have n0_ := Aside0.mk (blk_drew BK151.out)
          have n1_ := Aside0.mk (blk_drew BK159.out)
          have n2_ := Aside0.mk (blk_drew BK167.out)
          have n3_ := Aside0.mk (below_drew1 HB.out)
          clear BK151
          clear BK159
          clear BK167
          clear HB
          have BK151 := n0_
          have BK159 := n1_
          have BK167 := n2_
          have HB := n3_
          clear n0_ n1_ n2_ n3_
          refine start_ (n := 9) (S := fun w' => w'.cell? ⟨gb159, 0, none⟩ = some (.int .i64 4) ∧ w'.cell? ⟨gb159, 1, none⟩ = some (.int .i64 7) ∧ w'.cell? ⟨gb159, 2, none⟩ = some (.int .i64 0) ∧ w'.cell? ⟨gb159, 3, none⟩ = some (.int .i64 650) ∧ w'.cell? ⟨gb159, 4, none⟩ = some (.int .i64 7) ∧ w'.cell? ⟨gb159, 5, none⟩ = some (.int .i64 15) ∧ w'.cell? ⟨gb159, 6, none⟩ = some (.int .i64 0) ∧ w'.cell? ⟨gb167, 0, none⟩ = some (.int .i64 2) ∧ w'.cell? ⟨gb167, 1, none⟩ = some (.int .i64 2) ∧ w'.cell? ⟨gb167, 2, none⟩ = some (.int .i64 0) ∧ w'.cell? ⟨gb167, 3, none⟩ = some (.int .i64 1440) ∧ w'.cell? ⟨gb167, 4, none⟩ = some (.int .i64 40) ∧ w'.cell? ⟨gb167, 5, none⟩ = some (.int .i64 0) ∧ w'.cell? ⟨gb167, 6, none⟩ = some (.int .i64 0)) (ds := []) #[false, false, false, false, false, false, false, false, false] (by kernel_rfl) rfl rfl ⟨bc_ BK159 0, bc_ BK159 1, bc_ BK159 2, bc_ BK159 3, bc_ BK159 4, bc_ BK159 5, bc_ BK159 6, bc_ BK167 0, bc_ BK167 1, bc_ BK167 2, bc_ BK167 3, bc_ BK167 4, bc_ BK167 5, bc_ BK167 6⟩ (fun hHeld => ?_); refine with_tabW chargeparklaw33_head.tab6 chargeparklaw33_head.bits6 (fun HT_ HW_ => ?_)
          generalize w40.drew = w41 at BK151 BK159 BK167 HB hHeld ⊢
          refine take_ (i := 3) (N := some 22) (v := ?_) (a' := ?_) #[false, false, false, true, false, false, false, false, false] rfl rfl (take_ofW HT_.out HW_.out (by kernel_rfl)) (fun _ _ _ h => h) (Or.inl ⟨by rfl, ?_⟩) hHeld ?_ ?_
          rotate_left
          ·rintro w' ⟨s0, s1, s2, s3, s4, s5, s6, s7, s8, s9, s10, s11, s12, s13⟩
           go_simp
           with_reducible rfl
          rotate_left
          ·simp only [Act.put, List.setIfInBounds_toArray, List.set_cons_zero, List.set_cons_succ, i64_w, i32_w]
           rfl
          refine take_ (i := 4) (N := some 23) (v := ?_) (a' := ?_) #[false, false, false, true, true, false, false, false, false] rfl rfl (take_ofW HT_.out HW_.out (by kernel_rfl)) (fun _ _ _ h => h) (Or.inl ⟨by rfl, ?_⟩) hHeld ?_ ?_
          rotate_left
          ·rintro w' ⟨s0, s1, s2, s3, s4, s5, s6, s7, s8, s9, s10, s11, s12, s13⟩
           go_simp
           with_reducible rfl
          rotate_left
          ·simp only [Act.put, List.setIfInBounds_toArray, List.set_cons_zero, List.set_cons_succ, i64_w, i32_w]
           rfl
          refine join_ (σ := Value × Value × Nat) 1 #[true, true, true, true, true, true, true, true, false] (fun s_ => [(19, .agg #[.int .i64 1, .int .i64 7, .int .i64 0, .int .i64 1440, .int .i64 100, .int .i64 0, .int .i64 0]), (20, .agg #[.int .i64 2, .int .i64 7, .int .i64 0, .int .i64 1440, .int .i64 3333, .int .i64 0, .int .i64 0]), (21, .agg #[.int .i64 3, .int .i64 7, .int .i64 0, .int .i64 1440, .int .i64 10, .int .i64 25, .int .i64 5]), (24, s_.1), (25, .agg #[.string t192, s_.2.1]), (4, .pointer (some ⟨s_.2.2, 0, none⟩))]) (fun s_ w' => (w'.cell? ⟨gb159, 0, none⟩ = some (.int .i64 4) ∧ w'.cell? ⟨gb159, 1, none⟩ = some (.int .i64 7) ∧ w'.cell? ⟨gb159, 2, none⟩ = some (.int .i64 0) ∧ w'.cell? ⟨gb159, 3, none⟩ = some (.int .i64 650) ∧ w'.cell? ⟨gb159, 4, none⟩ = some (.int .i64 7) ∧ w'.cell? ⟨gb159, 5, none⟩ = some (.int .i64 15) ∧ w'.cell? ⟨gb159, 6, none⟩ = some (.int .i64 0) ∧ w'.cell? ⟨gb167, 0, none⟩ = some (.int .i64 2) ∧ w'.cell? ⟨gb167, 1, none⟩ = some (.int .i64 2) ∧ w'.cell? ⟨gb167, 2, none⟩ = some (.int .i64 0) ∧ w'.cell? ⟨gb167, 3, none⟩ = some (.int .i64 1440) ∧ w'.cell? ⟨gb167, 4, none⟩ = some (.int .i64 40) ∧ w'.cell? ⟨gb167, 5, none⟩ = some (.int .i64 0) ∧ w'.cell? ⟨gb167, 6, none⟩ = some (.int .i64 0)) ∧ (Kd.R k26 26 w' w.heap.size (fun k_ => k_ ≠ gb159 ∧ k_ ≠ gb167) s_.2.1 t193) ∧ (w'.heap[gb151]? = some (.cells #[.int .i64 0, .slice none 0 0, .slice none 0 0] 30 (0, 0))) ∧ (w'.heap[gb159]? = some (.cells #[.int .i64 4, .int .i64 7, .int .i64 0, .int .i64 650, .int .i64 7, .int .i64 15, .int .i64 0] 26 (0, 0))) ∧ (w'.heap[gb167]? = some (.cells #[.int .i64 2, .int .i64 2, .int .i64 0, .int .i64 1440, .int .i64 40, .int .i64 0, .int .i64 0] 26 (0, 0))) ∧ (w'.heap[s_.2.2]? = some (.cells #[.string (⟨#[]⟩ : ByteArray), .slice none 0 0] 24 (0, 0))) ∧ (w.heap.size ≤ s_.2.2) ∧ (w.heap.size ≤ s_.2.2) ∧ (gb151 ≠ s_.2.2) ∧ (s_.2.2 ≠ gb151) ∧ (gb159 ≠ s_.2.2) ∧ (s_.2.2 ≠ gb159) ∧ (gb167 ≠ s_.2.2) ∧ (s_.2.2 ≠ gb167) ∧ (Below w.heap.size w w')) ?_ ?_
          rotate_left
          ·intro hJ0_1_2_5_6_7
           refine join_ (σ := Value × Value) 2 #[true, true, true, true, true, true, true, false, false] (fun s_ => [(19, .agg #[.int .i64 1, .int .i64 7, .int .i64 0, .int .i64 1440, .int .i64 100, .int .i64 0, .int .i64 0]), (20, .agg #[.int .i64 2, .int .i64 7, .int .i64 0, .int .i64 1440, .int .i64 3333, .int .i64 0, .int .i64 0]), (21, .agg #[.int .i64 3, .int .i64 7, .int .i64 0, .int .i64 1440, .int .i64 10, .int .i64 25, .int .i64 5]), (24, s_.1), (25, .agg #[.string t192, s_.2])]) (fun s_ w' => (w'.cell? ⟨gb159, 0, none⟩ = some (.int .i64 4) ∧ w'.cell? ⟨gb159, 1, none⟩ = some (.int .i64 7) ∧ w'.cell? ⟨gb159, 2, none⟩ = some (.int .i64 0) ∧ w'.cell? ⟨gb159, 3, none⟩ = some (.int .i64 650) ∧ w'.cell? ⟨gb159, 4, none⟩ = some (.int .i64 7) ∧ w'.cell? ⟨gb159, 5, none⟩ = some (.int .i64 15) ∧ w'.cell? ⟨gb159, 6, none⟩ = some (.int .i64 0) ∧ w'.cell? ⟨gb167, 0, none⟩ = some (.int .i64 2) ∧ w'.cell? ⟨gb167, 1, none⟩ = some (.int .i64 2) ∧ w'.cell? ⟨gb167, 2, none⟩ = some (.int .i64 0) ∧ w'.cell? ⟨gb167, 3, none⟩ = some (.int .i64 1440) ∧ w'.cell? ⟨gb167, 4, none⟩ = some (.int .i64 40) ∧ w'.cell? ⟨gb167, 5, none⟩ = some (.int .i64 0) ∧ w'.cell? ⟨gb167, 6, none⟩ = some (.int .i64 0)) ∧ (Kd.R k26 26 w' w.heap.size (fun k_ => k_ ≠ gb159 ∧ k_ ≠ gb167) s_.2 t193) ∧ (w'.heap[gb151]? = some (.cells #[.int .i64 0, .slice none 0 0, .slice none 0 0] 30 (0, 0))) ∧ (w'.heap[gb159]? = some (.cells #[.int .i64 4, .int .i64 7, .int .i64 0, .int .i64 650, .int .i64 7, .int .i64 15, .int .i64 0] 26 (0, 0))) ∧ (w'.heap[gb167]? = some (.cells #[.int .i64 2, .int .i64 2, .int .i64 0, .int .i64 1440, .int .i64 40, .int .i64 0, .int .i64 0] 26 (0, 0))) ∧ (Below w.heap.size w w')) ?_ ?_
           rotate_left
           ·intro hJ0_1_2_5_6
            refine join_ (σ := Value × Nat) 2 #[true, true, true, true, true, true, false, true, false] (fun s_ => [(19, .agg #[.int .i64 1, .int .i64 7, .int .i64 0, .int .i64 1440, .int .i64 100, .int .i64 0, .int .i64 0]), (20, .agg #[.int .i64 2, .int .i64 7, .int .i64 0, .int .i64 1440, .int .i64 3333, .int .i64 0, .int .i64 0]), (21, .agg #[.int .i64 3, .int .i64 7, .int .i64 0, .int .i64 1440, .int .i64 10, .int .i64 25, .int .i64 5]), (24, s_.1), (4, .pointer (some ⟨s_.2, 0, none⟩))]) (fun s_ w' => (w'.cell? ⟨gb159, 0, none⟩ = some (.int .i64 4) ∧ w'.cell? ⟨gb159, 1, none⟩ = some (.int .i64 7) ∧ w'.cell? ⟨gb159, 2, none⟩ = some (.int .i64 0) ∧ w'.cell? ⟨gb159, 3, none⟩ = some (.int .i64 650) ∧ w'.cell? ⟨gb159, 4, none⟩ = some (.int .i64 7) ∧ w'.cell? ⟨gb159, 5, none⟩ = some (.int .i64 15) ∧ w'.cell? ⟨gb159, 6, none⟩ = some (.int .i64 0) ∧ w'.cell? ⟨gb167, 0, none⟩ = some (.int .i64 2) ∧ w'.cell? ⟨gb167, 1, none⟩ = some (.int .i64 2) ∧ w'.cell? ⟨gb167, 2, none⟩ = some (.int .i64 0) ∧ w'.cell? ⟨gb167, 3, none⟩ = some (.int .i64 1440) ∧ w'.cell? ⟨gb167, 4, none⟩ = some (.int .i64 40) ∧ w'.cell? ⟨gb167, 5, none⟩ = some (.int .i64 0) ∧ w'.cell? ⟨gb167, 6, none⟩ = some (.int .i64 0)) ∧ (Kd.R k26 26 w' w.heap.size (fun k_ => k_ ≠ gb159 ∧ k_ ≠ gb167) s_.1 y189) ∧ (w'.heap[gb151]? = some (.cells #[.int .i64 0, .slice none 0 0, .slice none 0 0] 30 (0, 0))) ∧ (w'.heap[gb159]? = some (.cells #[.int .i64 4, .int .i64 7, .int .i64 0, .int .i64 650, .int .i64 7, .int .i64 15, .int .i64 0] 26 (0, 0))) ∧ (w'.heap[gb167]? = some (.cells #[.int .i64 2, .int .i64 2, .int .i64 0, .int .i64 1440, .int .i64 40, .int .i64 0, .int .i64 0] 26 (0, 0))) ∧ (w'.heap[s_.2]? = some (.cells #[.string (⟨#[]⟩ : ByteArray), .slice none 0 0] 24 (0, 0))) ∧ (w.heap.size ≤ s_.2) ∧ (w.heap.size ≤ s_.2) ∧ (gb151 ≠ s_.2) ∧ (s_.2 ≠ gb151) ∧ (gb159 ≠ s_.2) ∧ (s_.2 ≠ gb159) ∧ (gb167 ≠ s_.2) ∧ (s_.2 ≠ gb167) ∧ (Below w.heap.size w w')) ?_ ?_
            rotate_left
            ·intro hJ0_1_2_5_7
             refine join_ (σ := Value) 3 #[true, true, true, true, true, true, false, false, false] (fun s_ => [(19, .agg #[.int .i64 1, .int .i64 7, .int .i64 0, .int .i64 1440, .int .i64 100, .int .i64 0, .int .i64 0]), (20, .agg #[.int .i64 2, .int .i64 7, .int .i64 0, .int .i64 1440, .int .i64 3333, .int .i64 0, .int .i64 0]), (21, .agg #[.int .i64 3, .int .i64 7, .int .i64 0, .int .i64 1440, .int .i64 10, .int .i64 25, .int .i64 5]), (24, s_)]) (fun s_ w' => (w'.cell? ⟨gb159, 0, none⟩ = some (.int .i64 4) ∧ w'.cell? ⟨gb159, 1, none⟩ = some (.int .i64 7) ∧ w'.cell? ⟨gb159, 2, none⟩ = some (.int .i64 0) ∧ w'.cell? ⟨gb159, 3, none⟩ = some (.int .i64 650) ∧ w'.cell? ⟨gb159, 4, none⟩ = some (.int .i64 7) ∧ w'.cell? ⟨gb159, 5, none⟩ = some (.int .i64 15) ∧ w'.cell? ⟨gb159, 6, none⟩ = some (.int .i64 0) ∧ w'.cell? ⟨gb167, 0, none⟩ = some (.int .i64 2) ∧ w'.cell? ⟨gb167, 1, none⟩ = some (.int .i64 2) ∧ w'.cell? ⟨gb167, 2, none⟩ = some (.int .i64 0) ∧ w'.cell? ⟨gb167, 3, none⟩ = some (.int .i64 1440) ∧ w'.cell? ⟨gb167, 4, none⟩ = some (.int .i64 40) ∧ w'.cell? ⟨gb167, 5, none⟩ = some (.int .i64 0) ∧ w'.cell? ⟨gb167, 6, none⟩ = some (.int .i64 0)) ∧ (Kd.R k26 26 w' w.heap.size (fun k_ => k_ ≠ gb159 ∧ k_ ≠ gb167) s_ y189) ∧ (w'.heap[gb151]? = some (.cells #[.int .i64 0, .slice none 0 0, .slice none 0 0] 30 (0, 0))) ∧ (w'.heap[gb159]? = some (.cells #[.int .i64 4, .int .i64 7, .int .i64 0, .int .i64 650, .int .i64 7, .int .i64 15, .int .i64 0] 26 (0, 0))) ∧ (w'.heap[gb167]? = some (.cells #[.int .i64 2, .int .i64 2, .int .i64 0, .int .i64 1440, .int .i64 40, .int .i64 0, .int .i64 0] 26 (0, 0))) ∧ (Below w.heap.size w w')) ?_ ?_
             rotate_left
             ·intro hJ0_1_2_5
              refine join_ (σ := Nat) 3 #[true, true, true, true, true, false, false, true, false] (fun s_ => [(19, .agg #[.int .i64 1, .int .i64 7, .int .i64 0, .int .i64 1440, .int .i64 100, .int .i64 0, .int .i64 0]), (20, .agg #[.int .i64 2, .int .i64 7, .int .i64 0, .int .i64 1440, .int .i64 3333, .int .i64 0, .int .i64 0]), (21, .agg #[.int .i64 3, .int .i64 7, .int .i64 0, .int .i64 1440, .int .i64 10, .int .i64 25, .int .i64 5]), (4, .pointer (some ⟨s_, 0, none⟩))]) (fun s_ w' => (w'.cell? ⟨gb159, 0, none⟩ = some (.int .i64 4) ∧ w'.cell? ⟨gb159, 1, none⟩ = some (.int .i64 7) ∧ w'.cell? ⟨gb159, 2, none⟩ = some (.int .i64 0) ∧ w'.cell? ⟨gb159, 3, none⟩ = some (.int .i64 650) ∧ w'.cell? ⟨gb159, 4, none⟩ = some (.int .i64 7) ∧ w'.cell? ⟨gb159, 5, none⟩ = some (.int .i64 15) ∧ w'.cell? ⟨gb159, 6, none⟩ = some (.int .i64 0) ∧ w'.cell? ⟨gb167, 0, none⟩ = some (.int .i64 2) ∧ w'.cell? ⟨gb167, 1, none⟩ = some (.int .i64 2) ∧ w'.cell? ⟨gb167, 2, none⟩ = some (.int .i64 0) ∧ w'.cell? ⟨gb167, 3, none⟩ = some (.int .i64 1440) ∧ w'.cell? ⟨gb167, 4, none⟩ = some (.int .i64 40) ∧ w'.cell? ⟨gb167, 5, none⟩ = some (.int .i64 0) ∧ w'.cell? ⟨gb167, 6, none⟩ = some (.int .i64 0)) ∧ (w'.heap[gb151]? = some (.cells #[.int .i64 0, .slice none 0 0, .slice none 0 0] 30 (0, 0))) ∧ (w'.heap[gb159]? = some (.cells #[.int .i64 4, .int .i64 7, .int .i64 0, .int .i64 650, .int .i64 7, .int .i64 15, .int .i64 0] 26 (0, 0))) ∧ (w'.heap[gb167]? = some (.cells #[.int .i64 2, .int .i64 2, .int .i64 0, .int .i64 1440, .int .i64 40, .int .i64 0, .int .i64 0] 26 (0, 0))) ∧ (w'.heap[s_]? = some (.cells #[.string (⟨#[]⟩ : ByteArray), .slice none 0 0] 24 (0, 0))) ∧ (w.heap.size ≤ s_) ∧ (w.heap.size ≤ s_) ∧ (gb151 ≠ s_) ∧ (s_ ≠ gb151) ∧ (gb159 ≠ s_) ∧ (s_ ≠ gb159) ∧ (gb167 ≠ s_) ∧ (s_ ≠ gb167) ∧ (Below w.heap.size w w')) ?_ ?_
              rotate_left
              ·intro hJ0_1_2_7
               refine join_ (σ := Unit) 4 #[true, true, true, true, true, false, false, false, false] (fun s_ => [(19, .agg #[.int .i64 1, .int .i64 7, .int .i64 0, .int .i64 1440, .int .i64 100, .int .i64 0, .int .i64 0]), (20, .agg #[.int .i64 2, .int .i64 7, .int .i64 0, .int .i64 1440, .int .i64 3333, .int .i64 0, .int .i64 0]), (21, .agg #[.int .i64 3, .int .i64 7, .int .i64 0, .int .i64 1440, .int .i64 10, .int .i64 25, .int .i64 5])]) (fun s_ w' => (w'.cell? ⟨gb159, 0, none⟩ = some (.int .i64 4) ∧ w'.cell? ⟨gb159, 1, none⟩ = some (.int .i64 7) ∧ w'.cell? ⟨gb159, 2, none⟩ = some (.int .i64 0) ∧ w'.cell? ⟨gb159, 3, none⟩ = some (.int .i64 650) ∧ w'.cell? ⟨gb159, 4, none⟩ = some (.int .i64 7) ∧ w'.cell? ⟨gb159, 5, none⟩ = some (.int .i64 15) ∧ w'.cell? ⟨gb159, 6, none⟩ = some (.int .i64 0) ∧ w'.cell? ⟨gb167, 0, none⟩ = some (.int .i64 2) ∧ w'.cell? ⟨gb167, 1, none⟩ = some (.int .i64 2) ∧ w'.cell? ⟨gb167, 2, none⟩ = some (.int .i64 0) ∧ w'.cell? ⟨gb167, 3, none⟩ = some (.int .i64 1440) ∧ w'.cell? ⟨gb167, 4, none⟩ = some (.int .i64 40) ∧ w'.cell? ⟨gb167, 5, none⟩ = some (.int .i64 0) ∧ w'.cell? ⟨gb167, 6, none⟩ = some (.int .i64 0)) ∧ (w'.heap[gb151]? = some (.cells #[.int .i64 0, .slice none 0 0, .slice none 0 0] 30 (0, 0))) ∧ (w'.heap[gb159]? = some (.cells #[.int .i64 4, .int .i64 7, .int .i64 0, .int .i64 650, .int .i64 7, .int .i64 15, .int .i64 0] 26 (0, 0))) ∧ (w'.heap[gb167]? = some (.cells #[.int .i64 2, .int .i64 2, .int .i64 0, .int .i64 1440, .int .i64 40, .int .i64 0, .int .i64 0] 26 (0, 0))) ∧ (Below w.heap.size w w')) ?_ ?_
               rotate_left
               ·intro hJ0_1_2
                refine join_ (σ := Nat) 4 #[true, true, false, true, true, false, false, true, false] (fun s_ => [(19, .agg #[.int .i64 1, .int .i64 7, .int .i64 0, .int .i64 1440, .int .i64 100, .int .i64 0, .int .i64 0]), (20, .agg #[.int .i64 2, .int .i64 7, .int .i64 0, .int .i64 1440, .int .i64 3333, .int .i64 0, .int .i64 0]), (4, .pointer (some ⟨s_, 0, none⟩))]) (fun s_ w' => (w'.cell? ⟨gb159, 0, none⟩ = some (.int .i64 4) ∧ w'.cell? ⟨gb159, 1, none⟩ = some (.int .i64 7) ∧ w'.cell? ⟨gb159, 2, none⟩ = some (.int .i64 0) ∧ w'.cell? ⟨gb159, 3, none⟩ = some (.int .i64 650) ∧ w'.cell? ⟨gb159, 4, none⟩ = some (.int .i64 7) ∧ w'.cell? ⟨gb159, 5, none⟩ = some (.int .i64 15) ∧ w'.cell? ⟨gb159, 6, none⟩ = some (.int .i64 0) ∧ w'.cell? ⟨gb167, 0, none⟩ = some (.int .i64 2) ∧ w'.cell? ⟨gb167, 1, none⟩ = some (.int .i64 2) ∧ w'.cell? ⟨gb167, 2, none⟩ = some (.int .i64 0) ∧ w'.cell? ⟨gb167, 3, none⟩ = some (.int .i64 1440) ∧ w'.cell? ⟨gb167, 4, none⟩ = some (.int .i64 40) ∧ w'.cell? ⟨gb167, 5, none⟩ = some (.int .i64 0) ∧ w'.cell? ⟨gb167, 6, none⟩ = some (.int .i64 0)) ∧ (w'.heap[gb151]? = some (.cells #[.int .i64 0, .slice none 0 0, .slice none 0 0] 30 (0, 0))) ∧ (w'.heap[gb159]? = some (.cells #[.int .i64 4, .int .i64 7, .int .i64 0, .int .i64 650, .int .i64 7, .int .i64 15, .int .i64 0] 26 (0, 0))) ∧ (w'.heap[gb167]? = some (.cells #[.int .i64 2, .int .i64 2, .int .i64 0, .int .i64 1440, .int .i64 40, .int .i64 0, .int .i64 0] 26 (0, 0))) ∧ (w'.heap[s_]? = some (.cells #[.string (⟨#[]⟩ : ByteArray), .slice none 0 0] 24 (0, 0))) ∧ (w.heap.size ≤ s_) ∧ (w.heap.size ≤ s_) ∧ (gb151 ≠ s_) ∧ (s_ ≠ gb151) ∧ (gb159 ≠ s_) ∧ (s_ ≠ gb159) ∧ (gb167 ≠ s_) ∧ (s_ ≠ gb167) ∧ (Below w.heap.size w w')) ?_ ?_
                rotate_left
                ·intro hJ0_1_7
                 refine join_ (σ := Unit) 5 #[true, true, false, true, true, false, false, false, false] (fun s_ => [(19, .agg #[.int .i64 1, .int .i64 7, .int .i64 0, .int .i64 1440, .int .i64 100, .int .i64 0, .int .i64 0]), (20, .agg #[.int .i64 2, .int .i64 7, .int .i64 0, .int .i64 1440, .int .i64 3333, .int .i64 0, .int .i64 0])]) (fun s_ w' => (w'.cell? ⟨gb159, 0, none⟩ = some (.int .i64 4) ∧ w'.cell? ⟨gb159, 1, none⟩ = some (.int .i64 7) ∧ w'.cell? ⟨gb159, 2, none⟩ = some (.int .i64 0) ∧ w'.cell? ⟨gb159, 3, none⟩ = some (.int .i64 650) ∧ w'.cell? ⟨gb159, 4, none⟩ = some (.int .i64 7) ∧ w'.cell? ⟨gb159, 5, none⟩ = some (.int .i64 15) ∧ w'.cell? ⟨gb159, 6, none⟩ = some (.int .i64 0) ∧ w'.cell? ⟨gb167, 0, none⟩ = some (.int .i64 2) ∧ w'.cell? ⟨gb167, 1, none⟩ = some (.int .i64 2) ∧ w'.cell? ⟨gb167, 2, none⟩ = some (.int .i64 0) ∧ w'.cell? ⟨gb167, 3, none⟩ = some (.int .i64 1440) ∧ w'.cell? ⟨gb167, 4, none⟩ = some (.int .i64 40) ∧ w'.cell? ⟨gb167, 5, none⟩ = some (.int .i64 0) ∧ w'.cell? ⟨gb167, 6, none⟩ = some (.int .i64 0)) ∧ (w'.heap[gb151]? = some (.cells #[.int .i64 0, .slice none 0 0, .slice none 0 0] 30 (0, 0))) ∧ (w'.heap[gb159]? = some (.cells #[.int .i64 4, .int .i64 7, .int .i64 0, .int .i64 650, .int .i64 7, .int .i64 15, .int .i64 0] 26 (0, 0))) ∧ (w'.heap[gb167]? = some (.cells #[.int .i64 2, .int .i64 2, .int .i64 0, .int .i64 1440, .int .i64 40, .int .i64 0, .int .i64 0] 26 (0, 0))) ∧ (Below w.heap.size w w')) ?_ ?_
                 rotate_left
                 ·intro hJ0_1
                  refine join_ (σ := Nat) 5 #[true, false, false, true, true, false, false, true, false] (fun s_ => [(19, .agg #[.int .i64 1, .int .i64 7, .int .i64 0, .int .i64 1440, .int .i64 100, .int .i64 0, .int .i64 0]), (4, .pointer (some ⟨s_, 0, none⟩))]) (fun s_ w' => (w'.cell? ⟨gb159, 0, none⟩ = some (.int .i64 4) ∧ w'.cell? ⟨gb159, 1, none⟩ = some (.int .i64 7) ∧ w'.cell? ⟨gb159, 2, none⟩ = some (.int .i64 0) ∧ w'.cell? ⟨gb159, 3, none⟩ = some (.int .i64 650) ∧ w'.cell? ⟨gb159, 4, none⟩ = some (.int .i64 7) ∧ w'.cell? ⟨gb159, 5, none⟩ = some (.int .i64 15) ∧ w'.cell? ⟨gb159, 6, none⟩ = some (.int .i64 0) ∧ w'.cell? ⟨gb167, 0, none⟩ = some (.int .i64 2) ∧ w'.cell? ⟨gb167, 1, none⟩ = some (.int .i64 2) ∧ w'.cell? ⟨gb167, 2, none⟩ = some (.int .i64 0) ∧ w'.cell? ⟨gb167, 3, none⟩ = some (.int .i64 1440) ∧ w'.cell? ⟨gb167, 4, none⟩ = some (.int .i64 40) ∧ w'.cell? ⟨gb167, 5, none⟩ = some (.int .i64 0) ∧ w'.cell? ⟨gb167, 6, none⟩ = some (.int .i64 0)) ∧ (w'.heap[gb151]? = some (.cells #[.int .i64 0, .slice none 0 0, .slice none 0 0] 30 (0, 0))) ∧ (w'.heap[gb159]? = some (.cells #[.int .i64 4, .int .i64 7, .int .i64 0, .int .i64 650, .int .i64 7, .int .i64 15, .int .i64 0] 26 (0, 0))) ∧ (w'.heap[gb167]? = some (.cells #[.int .i64 2, .int .i64 2, .int .i64 0, .int .i64 1440, .int .i64 40, .int .i64 0, .int .i64 0] 26 (0, 0))) ∧ (w'.heap[s_]? = some (.cells #[.string (⟨#[]⟩ : ByteArray), .slice none 0 0] 24 (0, 0))) ∧ (w.heap.size ≤ s_) ∧ (w.heap.size ≤ s_) ∧ (gb151 ≠ s_) ∧ (s_ ≠ gb151) ∧ (gb159 ≠ s_) ∧ (s_ ≠ gb159) ∧ (gb167 ≠ s_) ∧ (s_ ≠ gb167) ∧ (Below w.heap.size w w')) ?_ ?_
                  rotate_left
                  ·intro hJ0_7
                   refine join_ (σ := Unit) 6 #[true, false, false, true, true, false, false, false, false] (fun s_ => [(19, .agg #[.int .i64 1, .int .i64 7, .int .i64 0, .int .i64 1440, .int .i64 100, .int .i64 0, .int .i64 0])]) (fun s_ w' => (w'.cell? ⟨gb159, 0, none⟩ = some (.int .i64 4) ∧ w'.cell? ⟨gb159, 1, none⟩ = some (.int .i64 7) ∧ w'.cell? ⟨gb159, 2, none⟩ = some (.int .i64 0) ∧ w'.cell? ⟨gb159, 3, none⟩ = some (.int .i64 650) ∧ w'.cell? ⟨gb159, 4, none⟩ = some (.int .i64 7) ∧ w'.cell? ⟨gb159, 5, none⟩ = some (.int .i64 15) ∧ w'.cell? ⟨gb159, 6, none⟩ = some (.int .i64 0) ∧ w'.cell? ⟨gb167, 0, none⟩ = some (.int .i64 2) ∧ w'.cell? ⟨gb167, 1, none⟩ = some (.int .i64 2) ∧ w'.cell? ⟨gb167, 2, none⟩ = some (.int .i64 0) ∧ w'.cell? ⟨gb167, 3, none⟩ = some (.int .i64 1440) ∧ w'.cell? ⟨gb167, 4, none⟩ = some (.int .i64 40) ∧ w'.cell? ⟨gb167, 5, none⟩ = some (.int .i64 0) ∧ w'.cell? ⟨gb167, 6, none⟩ = some (.int .i64 0)) ∧ (w'.heap[gb151]? = some (.cells #[.int .i64 0, .slice none 0 0, .slice none 0 0] 30 (0, 0))) ∧ (w'.heap[gb159]? = some (.cells #[.int .i64 4, .int .i64 7, .int .i64 0, .int .i64 650, .int .i64 7, .int .i64 15, .int .i64 0] 26 (0, 0))) ∧ (w'.heap[gb167]? = some (.cells #[.int .i64 2, .int .i64 2, .int .i64 0, .int .i64 1440, .int .i64 40, .int .i64 0, .int .i64 0] 26 (0, 0))) ∧ (Below w.heap.size w w')) ?_ ?_
                   rotate_left
                   ·intro hJ0
                    refine join_ (σ := Nat) 6 #[false, false, false, true, true, false, false, true, false] (fun s_ => [(4, .pointer (some ⟨s_, 0, none⟩))]) (fun s_ w' => (w'.cell? ⟨gb159, 0, none⟩ = some (.int .i64 4) ∧ w'.cell? ⟨gb159, 1, none⟩ = some (.int .i64 7) ∧ w'.cell? ⟨gb159, 2, none⟩ = some (.int .i64 0) ∧ w'.cell? ⟨gb159, 3, none⟩ = some (.int .i64 650) ∧ w'.cell? ⟨gb159, 4, none⟩ = some (.int .i64 7) ∧ w'.cell? ⟨gb159, 5, none⟩ = some (.int .i64 15) ∧ w'.cell? ⟨gb159, 6, none⟩ = some (.int .i64 0) ∧ w'.cell? ⟨gb167, 0, none⟩ = some (.int .i64 2) ∧ w'.cell? ⟨gb167, 1, none⟩ = some (.int .i64 2) ∧ w'.cell? ⟨gb167, 2, none⟩ = some (.int .i64 0) ∧ w'.cell? ⟨gb167, 3, none⟩ = some (.int .i64 1440) ∧ w'.cell? ⟨gb167, 4, none⟩ = some (.int .i64 40) ∧ w'.cell? ⟨gb167, 5, none⟩ = some (.int .i64 0) ∧ w'.cell? ⟨gb167, 6, none⟩ = some (.int .i64 0)) ∧ (w'.heap[gb151]? = some (.cells #[.int .i64 0, .slice none 0 0, .slice none 0 0] 30 (0, 0))) ∧ (w'.heap[gb159]? = some (.cells #[.int .i64 4, .int .i64 7, .int .i64 0, .int .i64 650, .int .i64 7, .int .i64 15, .int .i64 0] 26 (0, 0))) ∧ (w'.heap[gb167]? = some (.cells #[.int .i64 2, .int .i64 2, .int .i64 0, .int .i64 1440, .int .i64 40, .int .i64 0, .int .i64 0] 26 (0, 0))) ∧ (w'.heap[s_]? = some (.cells #[.string (⟨#[]⟩ : ByteArray), .slice none 0 0] 24 (0, 0))) ∧ (w.heap.size ≤ s_) ∧ (w.heap.size ≤ s_) ∧ (gb151 ≠ s_) ∧ (s_ ≠ gb151) ∧ (gb159 ≠ s_) ∧ (s_ ≠ gb159) ∧ (gb167 ≠ s_) ∧ (s_ ≠ gb167) ∧ (Below w.heap.size w w')) ?_ ?_
                    rotate_left
                    ·intro hJ7
                     refine two_ (i := 0) (j := 7) (Ni := some 19) (Nj := some 4) #[true, false, false, true, true, false, false, false, false] #[false, false, false, true, true, false, false, true, false] rfl rfl rfl rfl (two_of HT_.out (by kernel_rfl)) (by decide) (by decide) (fun K hK => ?_) (fun K hK => ?_)
                     ·skip
                      refine goes_ Try.func35 (by kernel_rfl) rfl #[.int .i64 1, .int .i64 100, .int .i64 0, .int .i64 0] (by rfl) rfl rfl mp_ ?_
                      with_reducible refine (chargeparklaw33_article.calls 1 100 0 0 1 7 0 1440 100 0 0 _ A3.out).mono ?_
                      rintro e w42 ⟨rfl, hb⟩
                      refine ⟨_, rfl, ?_⟩
                      have n0_ := (bb_ BK151 hb)
                      have n1_ := (bb_ BK159 hb)
                      have n2_ := (bb_ BK167 hb)
                      have n3_ := Aside0.mk (below_step (hb_ HB) hb)
                      clear BK151
                      clear BK159
                      clear BK167
                      clear HB
                      have BK151 := n0_
                      have BK159 := n1_
                      have BK167 := n2_
                      have HB := n3_
                      clear n0_ n1_ n2_ n3_
                      (try clear hb)
                      (try clear hb2)
                      (try clear hk)
                      (try clear hi)
                      refine hK.out _ _ ⟨bc_ BK159 0, bc_ BK159 1, bc_ BK159 2, bc_ BK159 3, bc_ BK159 4, bc_ BK159 5, bc_ BK159 6, bc_ BK167 0, bc_ BK167 1, bc_ BK167 2, bc_ BK167 3, bc_ BK167 4, bc_ BK167 5, bc_ BK167 6⟩ (fun hHeld => ?_)
                      clear hK K
                      refine norm_ (a' := ?_) ?_ ?_
                      rotate_left
                      ·show Act.put _ (some 19) _ = _
                       simp only [Act.put, List.setIfInBounds_toArray, List.set_cons_zero, List.set_cons_succ, i64_w, i32_w]
                       rfl
                      exact nrm_ (hJ0 () _ ⟨hHeld, (bk_ BK151), (bk_ BK159), (bk_ BK167), (hb_ HB)⟩)
                     ·skip
                      refine box_step ?hg (N := 4) ?hd (cs := #[.string (⟨#[]⟩ : ByteArray), .slice none 0 0]) (t := 24) ?hr ?_; (case hd => rfl); (case hg => rfl); (case hr => first | (go_simp; done) | (go_simp; rfl))
                      intro gb196 hg w42 hbox hb
                      have n0_ := (bb_ BK151 hb)
                      have n1_ := (bb_ BK159 hb)
                      have n2_ := (bb_ BK167 hb)
                      have n3_ := Aside0.mk (below_step (hb_ HB) hb)
                      have n4_ := Aside0.mk (hbox)
                      have n5_ := Aside0.mk ((by rw [hg]; exact (below_size (hb_ HB)) : w.heap.size ≤ gb196))
                      have n6_ := Aside0.mk ((by rw [hg]; exact (below_size (hb_ HB)) : w.heap.size ≤ gb196))
                      have n7_ := (nlt_ BK151 hg)
                      have n8_ := (ngt_ BK151 hg)
                      have n9_ := (nlt_ BK159 hg)
                      have n10_ := (ngt_ BK159 hg)
                      have n11_ := (nlt_ BK167 hg)
                      have n12_ := (ngt_ BK167 hg)
                      clear BK151
                      clear BK159
                      clear BK167
                      clear HB
                      have BK151 := n0_
                      have BK159 := n1_
                      have BK167 := n2_
                      have HB := n3_
                      have BK196 := n4_
                      have GW196 := n5_
                      have GE196 := n6_
                      have NB151_196 := n7_
                      have NB196_151 := n8_
                      have NB159_196 := n9_
                      have NB196_159 := n10_
                      have NB167_196 := n11_
                      have NB196_167 := n12_
                      clear n0_ n1_ n2_ n3_ n4_ n5_ n6_ n7_ n8_ n9_ n10_ n11_ n12_
                      clear hb hbox hg
                      refine hK.out _ _ ⟨bc_ BK159 0, bc_ BK159 1, bc_ BK159 2, bc_ BK159 3, bc_ BK159 4, bc_ BK159 5, bc_ BK159 6, bc_ BK167 0, bc_ BK167 1, bc_ BK167 2, bc_ BK167 3, bc_ BK167 4, bc_ BK167 5, bc_ BK167 6⟩ (fun hHeld => ?_)
                      clear hK K
                      refine norm_ (a' := ?_) ?_ ?_
                      rotate_left
                      ·show Act.put _ (some 4) _ = _
                       simp only [Act.put, List.setIfInBounds_toArray, List.set_cons_zero, List.set_cons_succ, i64_w, i32_w]
                       rfl
                      exact nrm_ (hJ7 (gb196) _ ⟨hHeld, (bk_ BK151), (bk_ BK159), (bk_ BK167), (bk_ BK196), GW196.out, GE196.out, NB151_196.out, NB196_151.out, NB159_196.out, NB196_159.out, NB167_196.out, NB196_167.out, (hb_ HB)⟩)
                    ·skip
                     rintro gb196 w43 ⟨hS_, h0_, h1_, h2_, h3_, h4_, h5_, h6_, h7_, h8_, h9_, h10_, h11_, h12_⟩
                     (try dsimp only at h0_ h1_ h2_ h3_ h4_ h5_ h6_ h7_ h8_ h9_ h10_ h11_ h12_)
                     clear BK151
                     clear BK159
                     clear BK167
                     clear HB
                     have BK151 := Aside0.mk h0_
                     have BK159 := Aside0.mk h1_
                     have BK167 := Aside0.mk h2_
                     have BK196 := Aside0.mk h3_
                     have GW196 := Aside0.mk h4_
                     have GE196 := Aside0.mk h5_
                     have NB151_196 := Aside0.mk h6_
                     have NB196_151 := Aside0.mk h7_
                     have NB159_196 := Aside0.mk h8_
                     have NB196_159 := Aside0.mk h9_
                     have NB167_196 := Aside0.mk h10_
                     have NB196_167 := Aside0.mk h11_
                     have HB := Aside0.mk h12_
                     clear h0_ h1_ h2_ h3_ h4_ h5_ h6_ h7_ h8_ h9_ h10_ h11_ h12_
                     have hHeld : w43.cell? ⟨gb159, 0, none⟩ = some (.int .i64 4) ∧ w43.cell? ⟨gb159, 1, none⟩ = some (.int .i64 7) ∧ w43.cell? ⟨gb159, 2, none⟩ = some (.int .i64 0) ∧ w43.cell? ⟨gb159, 3, none⟩ = some (.int .i64 650) ∧ w43.cell? ⟨gb159, 4, none⟩ = some (.int .i64 7) ∧ w43.cell? ⟨gb159, 5, none⟩ = some (.int .i64 15) ∧ w43.cell? ⟨gb159, 6, none⟩ = some (.int .i64 0) ∧ w43.cell? ⟨gb167, 0, none⟩ = some (.int .i64 2) ∧ w43.cell? ⟨gb167, 1, none⟩ = some (.int .i64 2) ∧ w43.cell? ⟨gb167, 2, none⟩ = some (.int .i64 0) ∧ w43.cell? ⟨gb167, 3, none⟩ = some (.int .i64 1440) ∧ w43.cell? ⟨gb167, 4, none⟩ = some (.int .i64 40) ∧ w43.cell? ⟨gb167, 5, none⟩ = some (.int .i64 0) ∧ w43.cell? ⟨gb167, 6, none⟩ = some (.int .i64 0) := hS_
                     refine norm_ (a' := ?_) ?_ ?_
                     rotate_left
                     ·simp only [putAll, Act.put, List.setIfInBounds_toArray, List.set_cons_zero, List.set_cons_succ]
                      rfl
                     refine one_ (i := 0) (N := some 19) #[true, false, false, true, true, false, false, true, false] rfl rfl (one_of HT_.out (by kernel_rfl)) (by decide) (fun K hK => ?_)
                     refine goes_ Try.func35 (by kernel_rfl) rfl #[.int .i64 1, .int .i64 100, .int .i64 0, .int .i64 0] (by rfl) rfl rfl mp_ ?_
                     with_reducible refine (chargeparklaw33_article.calls 1 100 0 0 1 7 0 1440 100 0 0 _ A3.out).mono ?_
                     rintro e w44 ⟨rfl, hb⟩
                     refine ⟨_, rfl, ?_⟩
                     have n0_ := (bb_ BK151 hb)
                     have n1_ := (bb_ BK159 hb)
                     have n2_ := (bb_ BK167 hb)
                     have n3_ := Aside0.mk (blk_below (g := gb196) (o := .cells #[.string (⟨#[]⟩ : ByteArray), .slice none 0 0] 24 (0, 0)) (bk_ BK196) hb)
                     have n4_ := Aside0.mk (below_step (hb_ HB) hb)
                     clear BK151
                     clear BK159
                     clear BK167
                     clear BK196
                     clear HB
                     have BK151 := n0_
                     have BK159 := n1_
                     have BK167 := n2_
                     have BK196 := n3_
                     have HB := n4_
                     clear n0_ n1_ n2_ n3_ n4_
                     (try clear hb)
                     (try clear hb2)
                     (try clear hk)
                     (try clear hi)
                     refine hK.out _ _ ⟨bc_ BK159 0, bc_ BK159 1, bc_ BK159 2, bc_ BK159 3, bc_ BK159 4, bc_ BK159 5, bc_ BK159 6, bc_ BK167 0, bc_ BK167 1, bc_ BK167 2, bc_ BK167 3, bc_ BK167 4, bc_ BK167 5, bc_ BK167 6⟩ (fun hHeld => ?_)
                     clear hK K
                     refine norm_ (a' := ?_) ?_ ?_
                     rotate_left
                     ·show Act.put _ (some 19) _ = _
                      simp only [Act.put, List.setIfInBounds_toArray, List.set_cons_zero, List.set_cons_succ, i64_w, i32_w]
                      rfl
                     exact nrm_ (hJ0_7 (gb196) _ ⟨hHeld, (bk_ BK151), (bk_ BK159), (bk_ BK167), (bk_ BK196), GW196.out, GE196.out, NB151_196.out, NB196_151.out, NB159_196.out, NB196_159.out, NB167_196.out, NB196_167.out, (hb_ HB)⟩)
                   ·skip
                    rintro _ w43 ⟨hS_, h0_, h1_, h2_, h3_⟩
                    (try dsimp only at h0_ h1_ h2_ h3_)
                    clear BK151
                    clear BK159
                    clear BK167
                    clear HB
                    have BK151 := Aside0.mk h0_
                    have BK159 := Aside0.mk h1_
                    have BK167 := Aside0.mk h2_
                    have HB := Aside0.mk h3_
                    clear h0_ h1_ h2_ h3_
                    have hHeld : w43.cell? ⟨gb159, 0, none⟩ = some (.int .i64 4) ∧ w43.cell? ⟨gb159, 1, none⟩ = some (.int .i64 7) ∧ w43.cell? ⟨gb159, 2, none⟩ = some (.int .i64 0) ∧ w43.cell? ⟨gb159, 3, none⟩ = some (.int .i64 650) ∧ w43.cell? ⟨gb159, 4, none⟩ = some (.int .i64 7) ∧ w43.cell? ⟨gb159, 5, none⟩ = some (.int .i64 15) ∧ w43.cell? ⟨gb159, 6, none⟩ = some (.int .i64 0) ∧ w43.cell? ⟨gb167, 0, none⟩ = some (.int .i64 2) ∧ w43.cell? ⟨gb167, 1, none⟩ = some (.int .i64 2) ∧ w43.cell? ⟨gb167, 2, none⟩ = some (.int .i64 0) ∧ w43.cell? ⟨gb167, 3, none⟩ = some (.int .i64 1440) ∧ w43.cell? ⟨gb167, 4, none⟩ = some (.int .i64 40) ∧ w43.cell? ⟨gb167, 5, none⟩ = some (.int .i64 0) ∧ w43.cell? ⟨gb167, 6, none⟩ = some (.int .i64 0) := hS_
                    refine norm_ (a' := ?_) ?_ ?_
                    rotate_left
                    ·simp only [putAll, Act.put, List.setIfInBounds_toArray, List.set_cons_zero, List.set_cons_succ]
                     rfl
                    refine two_ (i := 1) (j := 7) (Ni := some 20) (Nj := some 4) #[true, true, false, true, true, false, false, false, false] #[true, false, false, true, true, false, false, true, false] rfl rfl rfl rfl (two_of HT_.out (by kernel_rfl)) (by decide) (by decide) (fun K hK => ?_) (fun K hK => ?_)
                    ·skip
                     refine goes_ Try.func35 (by kernel_rfl) rfl #[.int .i64 2, .int .i64 3333, .int .i64 0, .int .i64 0] (by rfl) rfl rfl mp_ ?_
                     with_reducible refine (chargeparklaw33_article.calls 2 3333 0 0 2 7 0 1440 3333 0 0 _ A4.out).mono ?_
                     rintro e w44 ⟨rfl, hb⟩
                     refine ⟨_, rfl, ?_⟩
                     have n0_ := (bb_ BK151 hb)
                     have n1_ := (bb_ BK159 hb)
                     have n2_ := (bb_ BK167 hb)
                     have n3_ := Aside0.mk (below_step (hb_ HB) hb)
                     clear BK151
                     clear BK159
                     clear BK167
                     clear HB
                     have BK151 := n0_
                     have BK159 := n1_
                     have BK167 := n2_
                     have HB := n3_
                     clear n0_ n1_ n2_ n3_
                     (try clear hb)
                     (try clear hb2)
                     (try clear hk)
                     (try clear hi)
                     refine hK.out _ _ ⟨bc_ BK159 0, bc_ BK159 1, bc_ BK159 2, bc_ BK159 3, bc_ BK159 4, bc_ BK159 5, bc_ BK159 6, bc_ BK167 0, bc_ BK167 1, bc_ BK167 2, bc_ BK167 3, bc_ BK167 4, bc_ BK167 5, bc_ BK167 6⟩ (fun hHeld => ?_)
                     clear hK K
                     refine norm_ (a' := ?_) ?_ ?_
                     rotate_left
                     ·show Act.put _ (some 20) _ = _
                      simp only [Act.put, List.setIfInBounds_toArray, List.set_cons_zero, List.set_cons_succ, i64_w, i32_w]
                      rfl
                     exact nrm_ (hJ0_1 () _ ⟨hHeld, (bk_ BK151), (bk_ BK159), (bk_ BK167), (hb_ HB)⟩)
                    ·skip
                     refine box_step ?hg (N := 4) ?hd (cs := #[.string (⟨#[]⟩ : ByteArray), .slice none 0 0]) (t := 24) ?hr ?_; (case hd => rfl); (case hg => rfl); (case hr => first | (go_simp; done) | (go_simp; rfl))
                     intro gb196 hg w44 hbox hb
                     have n0_ := (bb_ BK151 hb)
                     have n1_ := (bb_ BK159 hb)
                     have n2_ := (bb_ BK167 hb)
                     have n3_ := Aside0.mk (below_step (hb_ HB) hb)
                     have n4_ := Aside0.mk (hbox)
                     have n5_ := Aside0.mk ((by rw [hg]; exact (below_size (hb_ HB)) : w.heap.size ≤ gb196))
                     have n6_ := Aside0.mk ((by rw [hg]; exact (below_size (hb_ HB)) : w.heap.size ≤ gb196))
                     have n7_ := (nlt_ BK151 hg)
                     have n8_ := (ngt_ BK151 hg)
                     have n9_ := (nlt_ BK159 hg)
                     have n10_ := (ngt_ BK159 hg)
                     have n11_ := (nlt_ BK167 hg)
                     have n12_ := (ngt_ BK167 hg)
                     clear BK151
                     clear BK159
                     clear BK167
                     clear HB
                     have BK151 := n0_
                     have BK159 := n1_
                     have BK167 := n2_
                     have HB := n3_
                     have BK196 := n4_
                     have GW196 := n5_
                     have GE196 := n6_
                     have NB151_196 := n7_
                     have NB196_151 := n8_
                     have NB159_196 := n9_
                     have NB196_159 := n10_
                     have NB167_196 := n11_
                     have NB196_167 := n12_
                     clear n0_ n1_ n2_ n3_ n4_ n5_ n6_ n7_ n8_ n9_ n10_ n11_ n12_
                     clear hb hbox hg
                     refine hK.out _ _ ⟨bc_ BK159 0, bc_ BK159 1, bc_ BK159 2, bc_ BK159 3, bc_ BK159 4, bc_ BK159 5, bc_ BK159 6, bc_ BK167 0, bc_ BK167 1, bc_ BK167 2, bc_ BK167 3, bc_ BK167 4, bc_ BK167 5, bc_ BK167 6⟩ (fun hHeld => ?_)
                     clear hK K
                     refine norm_ (a' := ?_) ?_ ?_
                     rotate_left
                     ·show Act.put _ (some 4) _ = _
                      simp only [Act.put, List.setIfInBounds_toArray, List.set_cons_zero, List.set_cons_succ, i64_w, i32_w]
                      rfl
                     exact nrm_ (hJ0_7 (gb196) _ ⟨hHeld, (bk_ BK151), (bk_ BK159), (bk_ BK167), (bk_ BK196), GW196.out, GE196.out, NB151_196.out, NB196_151.out, NB159_196.out, NB196_159.out, NB167_196.out, NB196_167.out, (hb_ HB)⟩)
                  ·skip
                   rintro gb196 w44 ⟨hS_, h0_, h1_, h2_, h3_, h4_, h5_, h6_, h7_, h8_, h9_, h10_, h11_, h12_⟩
                   (try dsimp only at h0_ h1_ h2_ h3_ h4_ h5_ h6_ h7_ h8_ h9_ h10_ h11_ h12_)
                   clear BK151
                   clear BK159
                   clear BK167
                   clear HB
                   have BK151 := Aside0.mk h0_
                   have BK159 := Aside0.mk h1_
                   have BK167 := Aside0.mk h2_
                   have BK196 := Aside0.mk h3_
                   have GW196 := Aside0.mk h4_
                   have GE196 := Aside0.mk h5_
                   have NB151_196 := Aside0.mk h6_
                   have NB196_151 := Aside0.mk h7_
                   have NB159_196 := Aside0.mk h8_
                   have NB196_159 := Aside0.mk h9_
                   have NB167_196 := Aside0.mk h10_
                   have NB196_167 := Aside0.mk h11_
                   have HB := Aside0.mk h12_
                   clear h0_ h1_ h2_ h3_ h4_ h5_ h6_ h7_ h8_ h9_ h10_ h11_ h12_
                   have hHeld : w44.cell? ⟨gb159, 0, none⟩ = some (.int .i64 4) ∧ w44.cell? ⟨gb159, 1, none⟩ = some (.int .i64 7) ∧ w44.cell? ⟨gb159, 2, none⟩ = some (.int .i64 0) ∧ w44.cell? ⟨gb159, 3, none⟩ = some (.int .i64 650) ∧ w44.cell? ⟨gb159, 4, none⟩ = some (.int .i64 7) ∧ w44.cell? ⟨gb159, 5, none⟩ = some (.int .i64 15) ∧ w44.cell? ⟨gb159, 6, none⟩ = some (.int .i64 0) ∧ w44.cell? ⟨gb167, 0, none⟩ = some (.int .i64 2) ∧ w44.cell? ⟨gb167, 1, none⟩ = some (.int .i64 2) ∧ w44.cell? ⟨gb167, 2, none⟩ = some (.int .i64 0) ∧ w44.cell? ⟨gb167, 3, none⟩ = some (.int .i64 1440) ∧ w44.cell? ⟨gb167, 4, none⟩ = some (.int .i64 40) ∧ w44.cell? ⟨gb167, 5, none⟩ = some (.int .i64 0) ∧ w44.cell? ⟨gb167, 6, none⟩ = some (.int .i64 0) := hS_
                   refine norm_ (a' := ?_) ?_ ?_
                   rotate_left
                   ·simp only [putAll, Act.put, List.setIfInBounds_toArray, List.set_cons_zero, List.set_cons_succ]
                    rfl
                   refine one_ (i := 1) (N := some 20) #[true, true, false, true, true, false, false, true, false] rfl rfl (one_of HT_.out (by kernel_rfl)) (by decide) (fun K hK => ?_)
                   refine goes_ Try.func35 (by kernel_rfl) rfl #[.int .i64 2, .int .i64 3333, .int .i64 0, .int .i64 0] (by rfl) rfl rfl mp_ ?_
                   with_reducible refine (chargeparklaw33_article.calls 2 3333 0 0 2 7 0 1440 3333 0 0 _ A4.out).mono ?_
                   rintro e w45 ⟨rfl, hb⟩
                   refine ⟨_, rfl, ?_⟩
                   have n0_ := (bb_ BK151 hb)
                   have n1_ := (bb_ BK159 hb)
                   have n2_ := (bb_ BK167 hb)
                   have n3_ := Aside0.mk (blk_below (g := gb196) (o := .cells #[.string (⟨#[]⟩ : ByteArray), .slice none 0 0] 24 (0, 0)) (bk_ BK196) hb)
                   have n4_ := Aside0.mk (below_step (hb_ HB) hb)
                   clear BK151
                   clear BK159
                   clear BK167
                   clear BK196
                   clear HB
                   have BK151 := n0_
                   have BK159 := n1_
                   have BK167 := n2_
                   have BK196 := n3_
                   have HB := n4_
                   clear n0_ n1_ n2_ n3_ n4_
                   (try clear hb)
                   (try clear hb2)
                   (try clear hk)
                   (try clear hi)
                   refine hK.out _ _ ⟨bc_ BK159 0, bc_ BK159 1, bc_ BK159 2, bc_ BK159 3, bc_ BK159 4, bc_ BK159 5, bc_ BK159 6, bc_ BK167 0, bc_ BK167 1, bc_ BK167 2, bc_ BK167 3, bc_ BK167 4, bc_ BK167 5, bc_ BK167 6⟩ (fun hHeld => ?_)
                   clear hK K
                   refine norm_ (a' := ?_) ?_ ?_
                   rotate_left
                   ·show Act.put _ (some 20) _ = _
                    simp only [Act.put, List.setIfInBounds_toArray, List.set_cons_zero, List.set_cons_succ, i64_w, i32_w]
                    rfl
                   exact nrm_ (hJ0_1_7 (gb196) _ ⟨hHeld, (bk_ BK151), (bk_ BK159), (bk_ BK167), (bk_ BK196), GW196.out, GE196.out, NB151_196.out, NB196_151.out, NB159_196.out, NB196_159.out, NB167_196.out, NB196_167.out, (hb_ HB)⟩)
                 ·skip
                  rintro _ w44 ⟨hS_, h0_, h1_, h2_, h3_⟩
                  (try dsimp only at h0_ h1_ h2_ h3_)
                  clear BK151
                  clear BK159
                  clear BK167
                  clear HB
                  have BK151 := Aside0.mk h0_
                  have BK159 := Aside0.mk h1_
                  have BK167 := Aside0.mk h2_
                  have HB := Aside0.mk h3_
                  clear h0_ h1_ h2_ h3_
                  have hHeld : w44.cell? ⟨gb159, 0, none⟩ = some (.int .i64 4) ∧ w44.cell? ⟨gb159, 1, none⟩ = some (.int .i64 7) ∧ w44.cell? ⟨gb159, 2, none⟩ = some (.int .i64 0) ∧ w44.cell? ⟨gb159, 3, none⟩ = some (.int .i64 650) ∧ w44.cell? ⟨gb159, 4, none⟩ = some (.int .i64 7) ∧ w44.cell? ⟨gb159, 5, none⟩ = some (.int .i64 15) ∧ w44.cell? ⟨gb159, 6, none⟩ = some (.int .i64 0) ∧ w44.cell? ⟨gb167, 0, none⟩ = some (.int .i64 2) ∧ w44.cell? ⟨gb167, 1, none⟩ = some (.int .i64 2) ∧ w44.cell? ⟨gb167, 2, none⟩ = some (.int .i64 0) ∧ w44.cell? ⟨gb167, 3, none⟩ = some (.int .i64 1440) ∧ w44.cell? ⟨gb167, 4, none⟩ = some (.int .i64 40) ∧ w44.cell? ⟨gb167, 5, none⟩ = some (.int .i64 0) ∧ w44.cell? ⟨gb167, 6, none⟩ = some (.int .i64 0) := hS_
                  refine norm_ (a' := ?_) ?_ ?_
                  rotate_left
                  ·simp only [putAll, Act.put, List.setIfInBounds_toArray, List.set_cons_zero, List.set_cons_succ]
                   rfl
                  refine two_ (i := 2) (j := 7) (Ni := some 21) (Nj := some 4) #[true, true, true, true, true, false, false, false, false] #[true, true, false, true, true, false, false, true, false] rfl rfl rfl rfl (two_of HT_.out (by kernel_rfl)) (by decide) (by decide) (fun K hK => ?_) (fun K hK => ?_)
                  ·skip
                   refine goes_ Try.func35 (by kernel_rfl) rfl #[.int .i64 3, .int .i64 10, .int .i64 25, .int .i64 5] (by rfl) rfl rfl mp_ ?_
                   with_reducible refine (chargeparklaw33_article.calls 3 10 25 5 3 7 0 1440 10 25 5 _ A5.out).mono ?_
                   rintro e w45 ⟨rfl, hb⟩
                   refine ⟨_, rfl, ?_⟩
                   have n0_ := (bb_ BK151 hb)
                   have n1_ := (bb_ BK159 hb)
                   have n2_ := (bb_ BK167 hb)
                   have n3_ := Aside0.mk (below_step (hb_ HB) hb)
                   clear BK151
                   clear BK159
                   clear BK167
                   clear HB
                   have BK151 := n0_
                   have BK159 := n1_
                   have BK167 := n2_
                   have HB := n3_
                   clear n0_ n1_ n2_ n3_
                   (try clear hb)
                   (try clear hb2)
                   (try clear hk)
                   (try clear hi)
                   refine hK.out _ _ ⟨bc_ BK159 0, bc_ BK159 1, bc_ BK159 2, bc_ BK159 3, bc_ BK159 4, bc_ BK159 5, bc_ BK159 6, bc_ BK167 0, bc_ BK167 1, bc_ BK167 2, bc_ BK167 3, bc_ BK167 4, bc_ BK167 5, bc_ BK167 6⟩ (fun hHeld => ?_)
                   clear hK K
                   refine norm_ (a' := ?_) ?_ ?_
                   rotate_left
                   ·show Act.put _ (some 21) _ = _
                    simp only [Act.put, List.setIfInBounds_toArray, List.set_cons_zero, List.set_cons_succ, i64_w, i32_w]
                    rfl
                   exact nrm_ (hJ0_1_2 () _ ⟨hHeld, (bk_ BK151), (bk_ BK159), (bk_ BK167), (hb_ HB)⟩)
                  ·skip
                   refine box_step ?hg (N := 4) ?hd (cs := #[.string (⟨#[]⟩ : ByteArray), .slice none 0 0]) (t := 24) ?hr ?_; (case hd => rfl); (case hg => rfl); (case hr => first | (go_simp; done) | (go_simp; rfl))
                   intro gb196 hg w45 hbox hb
                   have n0_ := (bb_ BK151 hb)
                   have n1_ := (bb_ BK159 hb)
                   have n2_ := (bb_ BK167 hb)
                   have n3_ := Aside0.mk (below_step (hb_ HB) hb)
                   have n4_ := Aside0.mk (hbox)
                   have n5_ := Aside0.mk ((by rw [hg]; exact (below_size (hb_ HB)) : w.heap.size ≤ gb196))
                   have n6_ := Aside0.mk ((by rw [hg]; exact (below_size (hb_ HB)) : w.heap.size ≤ gb196))
                   have n7_ := (nlt_ BK151 hg)
                   have n8_ := (ngt_ BK151 hg)
                   have n9_ := (nlt_ BK159 hg)
                   have n10_ := (ngt_ BK159 hg)
                   have n11_ := (nlt_ BK167 hg)
                   have n12_ := (ngt_ BK167 hg)
                   clear BK151
                   clear BK159
                   clear BK167
                   clear HB
                   have BK151 := n0_
                   have BK159 := n1_
                   have BK167 := n2_
                   have HB := n3_
                   have BK196 := n4_
                   have GW196 := n5_
                   have GE196 := n6_
                   have NB151_196 := n7_
                   have NB196_151 := n8_
                   have NB159_196 := n9_
                   have NB196_159 := n10_
                   have NB167_196 := n11_
                   have NB196_167 := n12_
                   clear n0_ n1_ n2_ n3_ n4_ n5_ n6_ n7_ n8_ n9_ n10_ n11_ n12_
                   clear hb hbox hg
                   refine hK.out _ _ ⟨bc_ BK159 0, bc_ BK159 1, bc_ BK159 2, bc_ BK159 3, bc_ BK159 4, bc_ BK159 5, bc_ BK159 6, bc_ BK167 0, bc_ BK167 1, bc_ BK167 2, bc_ BK167 3, bc_ BK167 4, bc_ BK167 5, bc_ BK167 6⟩ (fun hHeld => ?_)
                   clear hK K
                   refine norm_ (a' := ?_) ?_ ?_
                   rotate_left
                   ·show Act.put _ (some 4) _ = _
                    simp only [Act.put, List.setIfInBounds_toArray, List.set_cons_zero, List.set_cons_succ, i64_w, i32_w]
                    rfl
                   exact nrm_ (hJ0_1_7 (gb196) _ ⟨hHeld, (bk_ BK151), (bk_ BK159), (bk_ BK167), (bk_ BK196), GW196.out, GE196.out, NB151_196.out, NB196_151.out, NB159_196.out, NB196_159.out, NB167_196.out, NB196_167.out, (hb_ HB)⟩)
                ·skip
                 rintro gb196 w45 ⟨hS_, h0_, h1_, h2_, h3_, h4_, h5_, h6_, h7_, h8_, h9_, h10_, h11_, h12_⟩
                 (try dsimp only at h0_ h1_ h2_ h3_ h4_ h5_ h6_ h7_ h8_ h9_ h10_ h11_ h12_)
                 clear BK151
                 clear BK159
                 clear BK167
                 clear HB
                 have BK151 := Aside0.mk h0_
                 have BK159 := Aside0.mk h1_
                 have BK167 := Aside0.mk h2_
                 have BK196 := Aside0.mk h3_
                 have GW196 := Aside0.mk h4_
                 have GE196 := Aside0.mk h5_
                 have NB151_196 := Aside0.mk h6_
                 have NB196_151 := Aside0.mk h7_
                 have NB159_196 := Aside0.mk h8_
                 have NB196_159 := Aside0.mk h9_
                 have NB167_196 := Aside0.mk h10_
                 have NB196_167 := Aside0.mk h11_
                 have HB := Aside0.mk h12_
                 clear h0_ h1_ h2_ h3_ h4_ h5_ h6_ h7_ h8_ h9_ h10_ h11_ h12_
                 have hHeld : w45.cell? ⟨gb159, 0, none⟩ = some (.int .i64 4) ∧ w45.cell? ⟨gb159, 1, none⟩ = some (.int .i64 7) ∧ w45.cell? ⟨gb159, 2, none⟩ = some (.int .i64 0) ∧ w45.cell? ⟨gb159, 3, none⟩ = some (.int .i64 650) ∧ w45.cell? ⟨gb159, 4, none⟩ = some (.int .i64 7) ∧ w45.cell? ⟨gb159, 5, none⟩ = some (.int .i64 15) ∧ w45.cell? ⟨gb159, 6, none⟩ = some (.int .i64 0) ∧ w45.cell? ⟨gb167, 0, none⟩ = some (.int .i64 2) ∧ w45.cell? ⟨gb167, 1, none⟩ = some (.int .i64 2) ∧ w45.cell? ⟨gb167, 2, none⟩ = some (.int .i64 0) ∧ w45.cell? ⟨gb167, 3, none⟩ = some (.int .i64 1440) ∧ w45.cell? ⟨gb167, 4, none⟩ = some (.int .i64 40) ∧ w45.cell? ⟨gb167, 5, none⟩ = some (.int .i64 0) ∧ w45.cell? ⟨gb167, 6, none⟩ = some (.int .i64 0) := hS_
                 refine norm_ (a' := ?_) ?_ ?_
                 rotate_left
                 ·simp only [putAll, Act.put, List.setIfInBounds_toArray, List.set_cons_zero, List.set_cons_succ]
                  rfl
                 refine one_ (i := 2) (N := some 21) #[true, true, true, true, true, false, false, true, false] rfl rfl (one_of HT_.out (by kernel_rfl)) (by decide) (fun K hK => ?_)
                 refine goes_ Try.func35 (by kernel_rfl) rfl #[.int .i64 3, .int .i64 10, .int .i64 25, .int .i64 5] (by rfl) rfl rfl mp_ ?_
                 with_reducible refine (chargeparklaw33_article.calls 3 10 25 5 3 7 0 1440 10 25 5 _ A5.out).mono ?_
                 rintro e w46 ⟨rfl, hb⟩
                 refine ⟨_, rfl, ?_⟩
                 have n0_ := (bb_ BK151 hb)
                 have n1_ := (bb_ BK159 hb)
                 have n2_ := (bb_ BK167 hb)
                 have n3_ := Aside0.mk (blk_below (g := gb196) (o := .cells #[.string (⟨#[]⟩ : ByteArray), .slice none 0 0] 24 (0, 0)) (bk_ BK196) hb)
                 have n4_ := Aside0.mk (below_step (hb_ HB) hb)
                 clear BK151
                 clear BK159
                 clear BK167
                 clear BK196
                 clear HB
                 have BK151 := n0_
                 have BK159 := n1_
                 have BK167 := n2_
                 have BK196 := n3_
                 have HB := n4_
                 clear n0_ n1_ n2_ n3_ n4_
                 (try clear hb)
                 (try clear hb2)
                 (try clear hk)
                 (try clear hi)
                 refine hK.out _ _ ⟨bc_ BK159 0, bc_ BK159 1, bc_ BK159 2, bc_ BK159 3, bc_ BK159 4, bc_ BK159 5, bc_ BK159 6, bc_ BK167 0, bc_ BK167 1, bc_ BK167 2, bc_ BK167 3, bc_ BK167 4, bc_ BK167 5, bc_ BK167 6⟩ (fun hHeld => ?_)
                 clear hK K
                 refine norm_ (a' := ?_) ?_ ?_
                 rotate_left
                 ·show Act.put _ (some 21) _ = _
                  simp only [Act.put, List.setIfInBounds_toArray, List.set_cons_zero, List.set_cons_succ, i64_w, i32_w]
                  rfl
                 exact nrm_ (hJ0_1_2_7 (gb196) _ ⟨hHeld, (bk_ BK151), (bk_ BK159), (bk_ BK167), (bk_ BK196), GW196.out, GE196.out, NB151_196.out, NB196_151.out, NB159_196.out, NB196_159.out, NB167_196.out, NB196_167.out, (hb_ HB)⟩)
               ·skip
                rintro _ w45 ⟨hS_, h0_, h1_, h2_, h3_⟩
                (try dsimp only at h0_ h1_ h2_ h3_)
                clear BK151
                clear BK159
                clear BK167
                clear HB
                have BK151 := Aside0.mk h0_
                have BK159 := Aside0.mk h1_
                have BK167 := Aside0.mk h2_
                have HB := Aside0.mk h3_
                clear h0_ h1_ h2_ h3_
                have hHeld : w45.cell? ⟨gb159, 0, none⟩ = some (.int .i64 4) ∧ w45.cell? ⟨gb159, 1, none⟩ = some (.int .i64 7) ∧ w45.cell? ⟨gb159, 2, none⟩ = some (.int .i64 0) ∧ w45.cell? ⟨gb159, 3, none⟩ = some (.int .i64 650) ∧ w45.cell? ⟨gb159, 4, none⟩ = some (.int .i64 7) ∧ w45.cell? ⟨gb159, 5, none⟩ = some (.int .i64 15) ∧ w45.cell? ⟨gb159, 6, none⟩ = some (.int .i64 0) ∧ w45.cell? ⟨gb167, 0, none⟩ = some (.int .i64 2) ∧ w45.cell? ⟨gb167, 1, none⟩ = some (.int .i64 2) ∧ w45.cell? ⟨gb167, 2, none⟩ = some (.int .i64 0) ∧ w45.cell? ⟨gb167, 3, none⟩ = some (.int .i64 1440) ∧ w45.cell? ⟨gb167, 4, none⟩ = some (.int .i64 40) ∧ w45.cell? ⟨gb167, 5, none⟩ = some (.int .i64 0) ∧ w45.cell? ⟨gb167, 6, none⟩ = some (.int .i64 0) := hS_
                refine norm_ (a' := ?_) ?_ ?_
                rotate_left
                ·simp only [putAll, Act.put, List.setIfInBounds_toArray, List.set_cons_zero, List.set_cons_succ]
                 rfl
                refine two_ (i := 5) (j := 7) (Ni := some 24) (Nj := some 4) #[true, true, true, true, true, true, false, false, false] #[true, true, true, true, true, false, false, true, false] rfl rfl rfl rfl (two_of HT_.out (by kernel_rfl)) (by decide) (by decide) (fun K hK => ?_) (fun K hK => ?_)
                ·skip
                 refine Kd.R_lit_step k26 _ 26 ?hg (N := 24) ?hd (xs := ([(⟨1, 7, 0, 1440, 100, 0, 0⟩ : S26), (⟨2, 7, 0, 1440, 3333, 0, 0⟩ : S26), (⟨3, 7, 0, 1440, 10, 25, 5⟩ : S26), (⟨4, 7, 0, 650, 7, 15, 0⟩ : S26), (⟨2, 2, 0, 1440, 40, 0, 0⟩ : S26)] : List (S26))) (inner := [.int .i64 1, .int .i64 7, .int .i64 0, .int .i64 1440, .int .i64 100, .int .i64 0, .int .i64 0, .int .i64 2, .int .i64 7, .int .i64 0, .int .i64 1440, .int .i64 3333, .int .i64 0, .int .i64 0, .int .i64 3, .int .i64 7, .int .i64 0, .int .i64 1440, .int .i64 10, .int .i64 25, .int .i64 5, .int .i64 4, .int .i64 7, .int .i64 0, .int .i64 650, .int .i64 7, .int .i64 15, .int .i64 0, .int .i64 2, .int .i64 2, .int .i64 0, .int .i64 1440, .int .i64 40, .int .i64 0, .int .i64 0]) (ok := fun _ => True) (okp := fun _ => True) ?hr ?hp (fun _ hk => hk) trivial (Below.refl _ _) (Nat.le_refl _) (by simp) ?_; (case hd => rfl); (case hg => rfl); (case hr => first | (go_simp; done) | (go_simp; rfl)); (case hp => exact (Reps.c7 (show Kd.M k26 _ _ _ (⟨1, 7, 0, 1440, 100, 0, 0⟩ : S26) [.int .i64 1, .int .i64 7, .int .i64 0, .int .i64 1440, .int .i64 100, .int .i64 0, .int .i64 0] from (k26_mkM _ _ _ (⟨1, 7, 0, 1440, 100, 0, 0⟩ : S26) )) (Reps.c7 (show Kd.M k26 _ _ _ (⟨2, 7, 0, 1440, 3333, 0, 0⟩ : S26) [.int .i64 2, .int .i64 7, .int .i64 0, .int .i64 1440, .int .i64 3333, .int .i64 0, .int .i64 0] from (k26_mkM _ _ _ (⟨2, 7, 0, 1440, 3333, 0, 0⟩ : S26) )) (Reps.c7 (show Kd.M k26 _ _ _ (⟨3, 7, 0, 1440, 10, 25, 5⟩ : S26) [.int .i64 3, .int .i64 7, .int .i64 0, .int .i64 1440, .int .i64 10, .int .i64 25, .int .i64 5] from (k26_mkM _ _ _ (⟨3, 7, 0, 1440, 10, 25, 5⟩ : S26) )) (Reps.c7 (show Kd.M k26 _ _ _ (⟨4, 7, 0, 650, 7, 15, 0⟩ : S26) [.int .i64 4, .int .i64 7, .int .i64 0, .int .i64 650, .int .i64 7, .int .i64 15, .int .i64 0] from (k26_mkM _ _ _ (⟨4, 7, 0, 650, 7, 15, 0⟩ : S26) )) (Reps.c7 (show Kd.M k26 _ _ _ (⟨2, 2, 0, 1440, 40, 0, 0⟩ : S26) [.int .i64 2, .int .i64 2, .int .i64 0, .int .i64 1440, .int .i64 40, .int .i64 0, .int .i64 0] from (k26_mkM _ _ _ (⟨2, 2, 0, 1440, 40, 0, 0⟩ : S26) )) (Reps.none _ _)))))))
                 intro v190 w46 ho47 hb hg_ hnew_
                 clear hg_ hnew_
                 (first | rw [← Ny189.out] at ho47 | (simp only [Int.reduceToNat] at ho47; rw [← Ny189.out] at ho47))
                 have n0_ := Aside0.mk (Kd.R_lower (Kd.R_newB (Kd.R_newB ho47 (g := gb159) (o := .cells #[.int .i64 4, .int .i64 7, .int .i64 0, .int .i64 650, .int .i64 7, .int .i64 15, .int .i64 0] 26 (0, 0)) (bk_ BK159)) (g := gb167) (o := .cells #[.int .i64 2, .int .i64 2, .int .i64 0, .int .i64 1440, .int .i64 40, .int .i64 0, .int .i64 0] 26 (0, 0)) (bk_ BK167)) (below_size (hb_ HB)))
                 have n1_ := (bb_ BK151 hb)
                 have n2_ := (bb_ BK159 hb)
                 have n3_ := (bb_ BK167 hb)
                 have n4_ := Aside0.mk (below_step (hb_ HB) hb)
                 clear BK151
                 clear BK159
                 clear BK167
                 clear HB
                 have HO191 := n0_
                 have BK151 := n1_
                 have BK159 := n2_
                 have BK167 := n3_
                 have HB := n4_
                 clear n0_ n1_ n2_ n3_ n4_
                 clear hb ho47
                 refine hK.out _ _ ⟨bc_ BK159 0, bc_ BK159 1, bc_ BK159 2, bc_ BK159 3, bc_ BK159 4, bc_ BK159 5, bc_ BK159 6, bc_ BK167 0, bc_ BK167 1, bc_ BK167 2, bc_ BK167 3, bc_ BK167 4, bc_ BK167 5, bc_ BK167 6⟩ (fun hHeld => ?_)
                 clear hK K
                 refine norm_ (a' := ?_) ?_ ?_
                 rotate_left
                 ·show Act.put _ (some 24) _ = _
                  simp only [Act.put, List.setIfInBounds_toArray, List.set_cons_zero, List.set_cons_succ, i64_w, i32_w]
                  rfl
                 exact nrm_ (hJ0_1_2_5 (v190) _ ⟨hHeld, (by (with_reducible repeat (first | apply Kd.R_alloc | apply Kd.R_drewN | apply Kd.R_drew)); exact Kd.R_mono HO191.out (fun _ hk => ⟨hk.1.2, hk.2⟩)), (bk_ BK151), (bk_ BK159), (bk_ BK167), (hb_ HB)⟩)
                ·skip
                 refine box_step ?hg (N := 4) ?hd (cs := #[.string (⟨#[]⟩ : ByteArray), .slice none 0 0]) (t := 24) ?hr ?_; (case hd => rfl); (case hg => rfl); (case hr => first | (go_simp; done) | (go_simp; rfl))
                 intro gb196 hg w46 hbox hb
                 have n0_ := (bb_ BK151 hb)
                 have n1_ := (bb_ BK159 hb)
                 have n2_ := (bb_ BK167 hb)
                 have n3_ := Aside0.mk (below_step (hb_ HB) hb)
                 have n4_ := Aside0.mk (hbox)
                 have n5_ := Aside0.mk ((by rw [hg]; exact (below_size (hb_ HB)) : w.heap.size ≤ gb196))
                 have n6_ := Aside0.mk ((by rw [hg]; exact (below_size (hb_ HB)) : w.heap.size ≤ gb196))
                 have n7_ := (nlt_ BK151 hg)
                 have n8_ := (ngt_ BK151 hg)
                 have n9_ := (nlt_ BK159 hg)
                 have n10_ := (ngt_ BK159 hg)
                 have n11_ := (nlt_ BK167 hg)
                 have n12_ := (ngt_ BK167 hg)
                 clear BK151
                 clear BK159
                 clear BK167
                 clear HB
                 have BK151 := n0_
                 have BK159 := n1_
                 have BK167 := n2_
                 have HB := n3_
                 have BK196 := n4_
                 have GW196 := n5_
                 have GE196 := n6_
                 have NB151_196 := n7_
                 have NB196_151 := n8_
                 have NB159_196 := n9_
                 have NB196_159 := n10_
                 have NB167_196 := n11_
                 have NB196_167 := n12_
                 clear n0_ n1_ n2_ n3_ n4_ n5_ n6_ n7_ n8_ n9_ n10_ n11_ n12_
                 clear hb hbox hg
                 refine hK.out _ _ ⟨bc_ BK159 0, bc_ BK159 1, bc_ BK159 2, bc_ BK159 3, bc_ BK159 4, bc_ BK159 5, bc_ BK159 6, bc_ BK167 0, bc_ BK167 1, bc_ BK167 2, bc_ BK167 3, bc_ BK167 4, bc_ BK167 5, bc_ BK167 6⟩ (fun hHeld => ?_)
                 clear hK K
                 refine norm_ (a' := ?_) ?_ ?_
                 rotate_left
                 ·show Act.put _ (some 4) _ = _
                  simp only [Act.put, List.setIfInBounds_toArray, List.set_cons_zero, List.set_cons_succ, i64_w, i32_w]
                  rfl
                 exact nrm_ (hJ0_1_2_7 (gb196) _ ⟨hHeld, (bk_ BK151), (bk_ BK159), (bk_ BK167), (bk_ BK196), GW196.out, GE196.out, NB151_196.out, NB196_151.out, NB159_196.out, NB196_159.out, NB167_196.out, NB196_167.out, (hb_ HB)⟩)
              ·skip
               rintro gb196 w46 ⟨hS_, h0_, h1_, h2_, h3_, h4_, h5_, h6_, h7_, h8_, h9_, h10_, h11_, h12_⟩
               (try dsimp only at h0_ h1_ h2_ h3_ h4_ h5_ h6_ h7_ h8_ h9_ h10_ h11_ h12_)
               clear BK151
               clear BK159
               clear BK167
               clear HB
               have BK151 := Aside0.mk h0_
               have BK159 := Aside0.mk h1_
               have BK167 := Aside0.mk h2_
               have BK196 := Aside0.mk h3_
               have GW196 := Aside0.mk h4_
               have GE196 := Aside0.mk h5_
               have NB151_196 := Aside0.mk h6_
               have NB196_151 := Aside0.mk h7_
               have NB159_196 := Aside0.mk h8_
               have NB196_159 := Aside0.mk h9_
               have NB167_196 := Aside0.mk h10_
               have NB196_167 := Aside0.mk h11_
               have HB := Aside0.mk h12_
               clear h0_ h1_ h2_ h3_ h4_ h5_ h6_ h7_ h8_ h9_ h10_ h11_ h12_
               have hHeld : w46.cell? ⟨gb159, 0, none⟩ = some (.int .i64 4) ∧ w46.cell? ⟨gb159, 1, none⟩ = some (.int .i64 7) ∧ w46.cell? ⟨gb159, 2, none⟩ = some (.int .i64 0) ∧ w46.cell? ⟨gb159, 3, none⟩ = some (.int .i64 650) ∧ w46.cell? ⟨gb159, 4, none⟩ = some (.int .i64 7) ∧ w46.cell? ⟨gb159, 5, none⟩ = some (.int .i64 15) ∧ w46.cell? ⟨gb159, 6, none⟩ = some (.int .i64 0) ∧ w46.cell? ⟨gb167, 0, none⟩ = some (.int .i64 2) ∧ w46.cell? ⟨gb167, 1, none⟩ = some (.int .i64 2) ∧ w46.cell? ⟨gb167, 2, none⟩ = some (.int .i64 0) ∧ w46.cell? ⟨gb167, 3, none⟩ = some (.int .i64 1440) ∧ w46.cell? ⟨gb167, 4, none⟩ = some (.int .i64 40) ∧ w46.cell? ⟨gb167, 5, none⟩ = some (.int .i64 0) ∧ w46.cell? ⟨gb167, 6, none⟩ = some (.int .i64 0) := hS_
               refine norm_ (a' := ?_) ?_ ?_
               rotate_left
               ·simp only [putAll, Act.put, List.setIfInBounds_toArray, List.set_cons_zero, List.set_cons_succ]
                rfl
               refine one_ (i := 5) (N := some 24) #[true, true, true, true, true, true, false, true, false] rfl rfl (one_of HT_.out (by kernel_rfl)) (by decide) (fun K hK => ?_)
               refine Kd.R_lit_step k26 _ 26 ?hg (N := 24) ?hd (xs := ([(⟨1, 7, 0, 1440, 100, 0, 0⟩ : S26), (⟨2, 7, 0, 1440, 3333, 0, 0⟩ : S26), (⟨3, 7, 0, 1440, 10, 25, 5⟩ : S26), (⟨4, 7, 0, 650, 7, 15, 0⟩ : S26), (⟨2, 2, 0, 1440, 40, 0, 0⟩ : S26)] : List (S26))) (inner := [.int .i64 1, .int .i64 7, .int .i64 0, .int .i64 1440, .int .i64 100, .int .i64 0, .int .i64 0, .int .i64 2, .int .i64 7, .int .i64 0, .int .i64 1440, .int .i64 3333, .int .i64 0, .int .i64 0, .int .i64 3, .int .i64 7, .int .i64 0, .int .i64 1440, .int .i64 10, .int .i64 25, .int .i64 5, .int .i64 4, .int .i64 7, .int .i64 0, .int .i64 650, .int .i64 7, .int .i64 15, .int .i64 0, .int .i64 2, .int .i64 2, .int .i64 0, .int .i64 1440, .int .i64 40, .int .i64 0, .int .i64 0]) (ok := fun _ => True) (okp := fun _ => True) ?hr ?hp (fun _ hk => hk) trivial (Below.refl _ _) (Nat.le_refl _) (by simp) ?_; (case hd => rfl); (case hg => rfl); (case hr => first | (go_simp; done) | (go_simp; rfl)); (case hp => exact (Reps.c7 (show Kd.M k26 _ _ _ (⟨1, 7, 0, 1440, 100, 0, 0⟩ : S26) [.int .i64 1, .int .i64 7, .int .i64 0, .int .i64 1440, .int .i64 100, .int .i64 0, .int .i64 0] from (k26_mkM _ _ _ (⟨1, 7, 0, 1440, 100, 0, 0⟩ : S26) )) (Reps.c7 (show Kd.M k26 _ _ _ (⟨2, 7, 0, 1440, 3333, 0, 0⟩ : S26) [.int .i64 2, .int .i64 7, .int .i64 0, .int .i64 1440, .int .i64 3333, .int .i64 0, .int .i64 0] from (k26_mkM _ _ _ (⟨2, 7, 0, 1440, 3333, 0, 0⟩ : S26) )) (Reps.c7 (show Kd.M k26 _ _ _ (⟨3, 7, 0, 1440, 10, 25, 5⟩ : S26) [.int .i64 3, .int .i64 7, .int .i64 0, .int .i64 1440, .int .i64 10, .int .i64 25, .int .i64 5] from (k26_mkM _ _ _ (⟨3, 7, 0, 1440, 10, 25, 5⟩ : S26) )) (Reps.c7 (show Kd.M k26 _ _ _ (⟨4, 7, 0, 650, 7, 15, 0⟩ : S26) [.int .i64 4, .int .i64 7, .int .i64 0, .int .i64 650, .int .i64 7, .int .i64 15, .int .i64 0] from (k26_mkM _ _ _ (⟨4, 7, 0, 650, 7, 15, 0⟩ : S26) )) (Reps.c7 (show Kd.M k26 _ _ _ (⟨2, 2, 0, 1440, 40, 0, 0⟩ : S26) [.int .i64 2, .int .i64 2, .int .i64 0, .int .i64 1440, .int .i64 40, .int .i64 0, .int .i64 0] from (k26_mkM _ _ _ (⟨2, 2, 0, 1440, 40, 0, 0⟩ : S26) )) (Reps.none _ _)))))))
               intro v190 w47 ho48 hb hg_ hnew_
               clear hg_ hnew_
               (first | rw [← Ny189.out] at ho48 | (simp only [Int.reduceToNat] at ho48; rw [← Ny189.out] at ho48))
               have n0_ := Aside0.mk (Kd.R_lower (Kd.R_newB (Kd.R_newB ho48 (g := gb159) (o := .cells #[.int .i64 4, .int .i64 7, .int .i64 0, .int .i64 650, .int .i64 7, .int .i64 15, .int .i64 0] 26 (0, 0)) (bk_ BK159)) (g := gb167) (o := .cells #[.int .i64 2, .int .i64 2, .int .i64 0, .int .i64 1440, .int .i64 40, .int .i64 0, .int .i64 0] 26 (0, 0)) (bk_ BK167)) (below_size (hb_ HB)))
               have n1_ := (bb_ BK151 hb)
               have n2_ := (bb_ BK159 hb)
               have n3_ := (bb_ BK167 hb)
               have n4_ := Aside0.mk (blk_below (g := gb196) (o := .cells #[.string (⟨#[]⟩ : ByteArray), .slice none 0 0] 24 (0, 0)) (bk_ BK196) hb)
               have n5_ := Aside0.mk (below_step (hb_ HB) hb)
               clear BK151
               clear BK159
               clear BK167
               clear BK196
               clear HB
               have HO191 := n0_
               have BK151 := n1_
               have BK159 := n2_
               have BK167 := n3_
               have BK196 := n4_
               have HB := n5_
               clear n0_ n1_ n2_ n3_ n4_ n5_
               clear hb ho48
               refine hK.out _ _ ⟨bc_ BK159 0, bc_ BK159 1, bc_ BK159 2, bc_ BK159 3, bc_ BK159 4, bc_ BK159 5, bc_ BK159 6, bc_ BK167 0, bc_ BK167 1, bc_ BK167 2, bc_ BK167 3, bc_ BK167 4, bc_ BK167 5, bc_ BK167 6⟩ (fun hHeld => ?_)
               clear hK K
               refine norm_ (a' := ?_) ?_ ?_
               rotate_left
               ·show Act.put _ (some 24) _ = _
                simp only [Act.put, List.setIfInBounds_toArray, List.set_cons_zero, List.set_cons_succ, i64_w, i32_w]
                rfl
               exact nrm_ (hJ0_1_2_5_7 (v190, gb196) _ ⟨hHeld, (by (with_reducible repeat (first | apply Kd.R_alloc | apply Kd.R_drewN | apply Kd.R_drew)); exact Kd.R_mono HO191.out (fun _ hk => ⟨hk.1.2, hk.2⟩)), (bk_ BK151), (bk_ BK159), (bk_ BK167), (bk_ BK196), GW196.out, GE196.out, NB151_196.out, NB196_151.out, NB159_196.out, NB196_159.out, NB167_196.out, NB196_167.out, (hb_ HB)⟩)
             ·skip
              rintro v190 w47 ⟨hS_, h0_, h1_, h2_, h3_, h4_⟩
              (try dsimp only at h0_ h1_ h2_ h3_ h4_)
              clear BK151
              clear BK159
              clear BK167
              clear HB
              have HO191 := Aside0.mk h0_
              have BK151 := Aside0.mk h1_
              have BK159 := Aside0.mk h2_
              have BK167 := Aside0.mk h3_
              have HB := Aside0.mk h4_
              clear h0_ h1_ h2_ h3_ h4_
              have hHeld : w47.cell? ⟨gb159, 0, none⟩ = some (.int .i64 4) ∧ w47.cell? ⟨gb159, 1, none⟩ = some (.int .i64 7) ∧ w47.cell? ⟨gb159, 2, none⟩ = some (.int .i64 0) ∧ w47.cell? ⟨gb159, 3, none⟩ = some (.int .i64 650) ∧ w47.cell? ⟨gb159, 4, none⟩ = some (.int .i64 7) ∧ w47.cell? ⟨gb159, 5, none⟩ = some (.int .i64 15) ∧ w47.cell? ⟨gb159, 6, none⟩ = some (.int .i64 0) ∧ w47.cell? ⟨gb167, 0, none⟩ = some (.int .i64 2) ∧ w47.cell? ⟨gb167, 1, none⟩ = some (.int .i64 2) ∧ w47.cell? ⟨gb167, 2, none⟩ = some (.int .i64 0) ∧ w47.cell? ⟨gb167, 3, none⟩ = some (.int .i64 1440) ∧ w47.cell? ⟨gb167, 4, none⟩ = some (.int .i64 40) ∧ w47.cell? ⟨gb167, 5, none⟩ = some (.int .i64 0) ∧ w47.cell? ⟨gb167, 6, none⟩ = some (.int .i64 0) := hS_
              obtain ⟨Ao48, co48, eo48⟩ := Kd.R_slice HO191.out
              (first | subst eo48 | (injection eo48 with f1_ f2_ f3_; have f4_ := f1_.symm; have f5_ := f3_.symm; clear f1_ f2_ f3_; subst f4_; subst f5_))
              refine norm_ (a' := ?_) ?_ ?_
              rotate_left
              ·simp only [putAll, Act.put, List.setIfInBounds_toArray, List.set_cons_zero, List.set_cons_succ]
               rfl
              refine two_ (i := 6) (j := 7) (Ni := some 25) (Nj := some 4) #[true, true, true, true, true, true, true, false, false] #[true, true, true, true, true, true, false, true, false] rfl rfl rfl rfl (two_of HT_.out (by kernel_rfl)) (by decide) (by decide) (fun K hK => ?_) (fun K hK => ?_)
              ·skip
               refine goes_ Try.func54 (by kernel_rfl) rfl #[.slice Ao48 y189.length co48] (by rfl) rfl rfl mp_ ?_
               with_reducible refine (chargeparklaw33_tariffOf.calls (fun k_ => some k_ = (.slice Ao48 y189.length co48 : Value).ownBlock) (.slice Ao48 y189.length co48) y189 t192 t193 w _ ?side1 ?side2 A6.out).mono ?_
               (case side1 => repeat (first | (with_reducible first | exact HB.out | apply below_alloc | apply pw_below_drewN | apply below_drew1 | refine below_set ?_ GE151.out | refine below_set ?_ GE159.out | refine below_set ?_ GE167.out) | exact HB.out))
               (case side2 => exact Kd.R_tight rfl HO191.out)
               rintro e w49 ⟨v194, rfl, ho0, hb, hkp⟩
               refine ⟨_, rfl, ?_⟩
               have n0_ := Aside0.mk (blk_kept (bk_ BK151) hkp (fun hs_ => (fun e_ => (Kd.R_ne HO191.out BK151.out (by decide)) e_) hs_))
               have n1_ := Aside0.mk (blk_kept (bk_ BK159) hkp (fun hs_ => (fun e_ => (Kd.R_away HO191.out (fun _ hk => hk.1)) e_) hs_))
               have n2_ := Aside0.mk (blk_kept (bk_ BK167) hkp (fun hs_ => (fun e_ => (Kd.R_away HO191.out (fun _ hk => hk.2)) e_) hs_))
               have n3_ := Aside0.mk (Kd.R_mono (ok' := fun k_ => k_ ≠ gb159 ∧ k_ ≠ gb167) ho0 (fun k_ hk_ => ⟨Or.elim hk_ (fun hs_ => fun e_ => (Kd.R_away HO191.out (fun _ hk => hk.1)) (by rw [← e_]; exact hs_)) (fun hn_ => (Kd.freshB (g := gb159) (o := .cells #[.int .i64 4, .int .i64 7, .int .i64 0, .int .i64 650, .int .i64 7, .int .i64 15, .int .i64 0] 26 (0, 0)) (bk_ BK159) k_ hn_)), Or.elim hk_ (fun hs_ => fun e_ => (Kd.R_away HO191.out (fun _ hk => hk.2)) (by rw [← e_]; exact hs_)) (fun hn_ => (Kd.freshB (g := gb167) (o := .cells #[.int .i64 2, .int .i64 2, .int .i64 0, .int .i64 1440, .int .i64 40, .int .i64 0, .int .i64 0] 26 (0, 0)) (bk_ BK167) k_ hn_))⟩))
               have n4_ := Aside0.mk (hb)
               clear BK151
               clear BK159
               clear BK167
               clear HB
               clear HO191
               have BK151 := n0_
               have BK159 := n1_
               have BK167 := n2_
               have HO195 := n3_
               have HB := n4_
               clear n0_ n1_ n2_ n3_ n4_
               (try clear hb)
               (try clear hkp)
               (try clear ho0)
               refine hK.out _ _ ⟨bc_ BK159 0, bc_ BK159 1, bc_ BK159 2, bc_ BK159 3, bc_ BK159 4, bc_ BK159 5, bc_ BK159 6, bc_ BK167 0, bc_ BK167 1, bc_ BK167 2, bc_ BK167 3, bc_ BK167 4, bc_ BK167 5, bc_ BK167 6⟩ (fun hHeld => ?_)
               clear hK K
               refine norm_ (a' := ?_) ?_ ?_
               rotate_left
               ·show Act.put _ (some 25) _ = _
                simp only [Act.put, List.setIfInBounds_toArray, List.set_cons_zero, List.set_cons_succ, i64_w, i32_w]
                rfl
               exact nrm_ (hJ0_1_2_5_6 (.slice Ao48 y189.length co48, v194) _ ⟨hHeld, (kr_ HO195), (bk_ BK151), (bk_ BK159), (bk_ BK167), (hb_ HB)⟩)
              ·skip
               refine box_step ?hg (N := 4) ?hd (cs := #[.string (⟨#[]⟩ : ByteArray), .slice none 0 0]) (t := 24) ?hr ?_; (case hd => rfl); (case hg => rfl); (case hr => first | (go_simp; done) | (go_simp; rfl))
               intro gb196 hg w48 hbox hb
               have n0_ := Aside0.mk (Kd.R_below (kr_ HO191) hb)
               have n1_ := (bb_ BK151 hb)
               have n2_ := (bb_ BK159 hb)
               have n3_ := (bb_ BK167 hb)
               have n4_ := Aside0.mk (below_step (hb_ HB) hb)
               have n5_ := Aside0.mk (hbox)
               have n6_ := Aside0.mk ((by rw [hg]; exact (below_size (hb_ HB)) : w.heap.size ≤ gb196))
               have n7_ := Aside0.mk ((by rw [hg]; exact (below_size (hb_ HB)) : w.heap.size ≤ gb196))
               have n8_ := (nlt_ BK151 hg)
               have n9_ := (ngt_ BK151 hg)
               have n10_ := (nlt_ BK159 hg)
               have n11_ := (ngt_ BK159 hg)
               have n12_ := (nlt_ BK167 hg)
               have n13_ := (ngt_ BK167 hg)
               clear HO191
               clear BK151
               clear BK159
               clear BK167
               clear HB
               have HO191 := n0_
               have BK151 := n1_
               have BK159 := n2_
               have BK167 := n3_
               have HB := n4_
               have BK196 := n5_
               have GW196 := n6_
               have GE196 := n7_
               have NB151_196 := n8_
               have NB196_151 := n9_
               have NB159_196 := n10_
               have NB196_159 := n11_
               have NB167_196 := n12_
               have NB196_167 := n13_
               clear n0_ n1_ n2_ n3_ n4_ n5_ n6_ n7_ n8_ n9_ n10_ n11_ n12_ n13_
               clear hb hbox hg
               refine hK.out _ _ ⟨bc_ BK159 0, bc_ BK159 1, bc_ BK159 2, bc_ BK159 3, bc_ BK159 4, bc_ BK159 5, bc_ BK159 6, bc_ BK167 0, bc_ BK167 1, bc_ BK167 2, bc_ BK167 3, bc_ BK167 4, bc_ BK167 5, bc_ BK167 6⟩ (fun hHeld => ?_)
               clear hK K
               refine norm_ (a' := ?_) ?_ ?_
               rotate_left
               ·show Act.put _ (some 4) _ = _
                simp only [Act.put, List.setIfInBounds_toArray, List.set_cons_zero, List.set_cons_succ, i64_w, i32_w]
                rfl
               exact nrm_ (hJ0_1_2_5_7 (_, gb196) _ ⟨hHeld, (kr_ HO191), (bk_ BK151), (bk_ BK159), (bk_ BK167), (bk_ BK196), GW196.out, GE196.out, NB151_196.out, NB196_151.out, NB159_196.out, NB196_159.out, NB167_196.out, NB196_167.out, (hb_ HB)⟩)
            ·skip
             rintro ⟨v190, gb196⟩ w48 ⟨hS_, h0_, h1_, h2_, h3_, h4_, h5_, h6_, h7_, h8_, h9_, h10_, h11_, h12_, h13_⟩
             (try dsimp only at h0_ h1_ h2_ h3_ h4_ h5_ h6_ h7_ h8_ h9_ h10_ h11_ h12_ h13_)
             clear BK151
             clear BK159
             clear BK167
             clear HB
             have HO191 := Aside0.mk h0_
             have BK151 := Aside0.mk h1_
             have BK159 := Aside0.mk h2_
             have BK167 := Aside0.mk h3_
             have BK196 := Aside0.mk h4_
             have GW196 := Aside0.mk h5_
             have GE196 := Aside0.mk h6_
             have NB151_196 := Aside0.mk h7_
             have NB196_151 := Aside0.mk h8_
             have NB159_196 := Aside0.mk h9_
             have NB196_159 := Aside0.mk h10_
             have NB167_196 := Aside0.mk h11_
             have NB196_167 := Aside0.mk h12_
             have HB := Aside0.mk h13_
             clear h0_ h1_ h2_ h3_ h4_ h5_ h6_ h7_ h8_ h9_ h10_ h11_ h12_ h13_
             have hHeld : w48.cell? ⟨gb159, 0, none⟩ = some (.int .i64 4) ∧ w48.cell? ⟨gb159, 1, none⟩ = some (.int .i64 7) ∧ w48.cell? ⟨gb159, 2, none⟩ = some (.int .i64 0) ∧ w48.cell? ⟨gb159, 3, none⟩ = some (.int .i64 650) ∧ w48.cell? ⟨gb159, 4, none⟩ = some (.int .i64 7) ∧ w48.cell? ⟨gb159, 5, none⟩ = some (.int .i64 15) ∧ w48.cell? ⟨gb159, 6, none⟩ = some (.int .i64 0) ∧ w48.cell? ⟨gb167, 0, none⟩ = some (.int .i64 2) ∧ w48.cell? ⟨gb167, 1, none⟩ = some (.int .i64 2) ∧ w48.cell? ⟨gb167, 2, none⟩ = some (.int .i64 0) ∧ w48.cell? ⟨gb167, 3, none⟩ = some (.int .i64 1440) ∧ w48.cell? ⟨gb167, 4, none⟩ = some (.int .i64 40) ∧ w48.cell? ⟨gb167, 5, none⟩ = some (.int .i64 0) ∧ w48.cell? ⟨gb167, 6, none⟩ = some (.int .i64 0) := hS_
             obtain ⟨Ao49, co49, eo49⟩ := Kd.R_slice HO191.out
             (first | subst eo49 | (injection eo49 with f1_ f2_ f3_; have f4_ := f1_.symm; have f5_ := f3_.symm; clear f1_ f2_ f3_; subst f4_; subst f5_))
             refine norm_ (a' := ?_) ?_ ?_
             rotate_left
             ·simp only [putAll, Act.put, List.setIfInBounds_toArray, List.set_cons_zero, List.set_cons_succ]
              rfl
             refine one_ (i := 6) (N := some 25) #[true, true, true, true, true, true, true, true, false] rfl rfl (one_of HT_.out (by kernel_rfl)) (by decide) (fun K hK => ?_)
             refine goes_ Try.func54 (by kernel_rfl) rfl #[.slice Ao49 y189.length co49] (by rfl) rfl rfl mp_ ?_
             with_reducible refine (chargeparklaw33_tariffOf.calls (fun k_ => some k_ = (.slice Ao49 y189.length co49 : Value).ownBlock) (.slice Ao49 y189.length co49) y189 t192 t193 w _ ?side1 ?side2 A6.out).mono ?_
             (case side1 => repeat (first | (with_reducible first | exact HB.out | apply below_alloc | apply pw_below_drewN | apply below_drew1 | refine below_set ?_ GE151.out | refine below_set ?_ GE159.out | refine below_set ?_ GE167.out | refine below_set ?_ GE196.out) | exact HB.out))
             (case side2 => exact Kd.R_tight rfl HO191.out)
             rintro e w50 ⟨v194, rfl, ho0, hb, hkp⟩
             refine ⟨_, rfl, ?_⟩
             have n0_ := Aside0.mk (blk_kept (bk_ BK151) hkp (fun hs_ => (fun e_ => (Kd.R_ne HO191.out BK151.out (by decide)) e_) hs_))
             have n1_ := Aside0.mk (blk_kept (bk_ BK159) hkp (fun hs_ => (fun e_ => (Kd.R_away HO191.out (fun _ hk => hk.1)) e_) hs_))
             have n2_ := Aside0.mk (blk_kept (bk_ BK167) hkp (fun hs_ => (fun e_ => (Kd.R_away HO191.out (fun _ hk => hk.2)) e_) hs_))
             have n3_ := Aside0.mk (blk_kept (bk_ BK196) hkp (fun hs_ => (fun e_ => (Kd.R_ne HO191.out BK196.out (by decide)) e_) hs_))
             have n4_ := Aside0.mk (Kd.R_mono (ok' := fun k_ => k_ ≠ gb159 ∧ k_ ≠ gb167) ho0 (fun k_ hk_ => ⟨Or.elim hk_ (fun hs_ => fun e_ => (Kd.R_away HO191.out (fun _ hk => hk.1)) (by rw [← e_]; exact hs_)) (fun hn_ => (Kd.freshB (g := gb159) (o := .cells #[.int .i64 4, .int .i64 7, .int .i64 0, .int .i64 650, .int .i64 7, .int .i64 15, .int .i64 0] 26 (0, 0)) (bk_ BK159) k_ hn_)), Or.elim hk_ (fun hs_ => fun e_ => (Kd.R_away HO191.out (fun _ hk => hk.2)) (by rw [← e_]; exact hs_)) (fun hn_ => (Kd.freshB (g := gb167) (o := .cells #[.int .i64 2, .int .i64 2, .int .i64 0, .int .i64 1440, .int .i64 40, .int .i64 0, .int .i64 0] 26 (0, 0)) (bk_ BK167) k_ hn_))⟩))
             have n5_ := Aside0.mk (hb)
             clear BK151
             clear BK159
             clear BK167
             clear BK196
             clear HB
             clear HO191
             have BK151 := n0_
             have BK159 := n1_
             have BK167 := n2_
             have BK196 := n3_
             have HO195 := n4_
             have HB := n5_
             clear n0_ n1_ n2_ n3_ n4_ n5_
             (try clear hb)
             (try clear hkp)
             (try clear ho0)
             refine hK.out _ _ ⟨bc_ BK159 0, bc_ BK159 1, bc_ BK159 2, bc_ BK159 3, bc_ BK159 4, bc_ BK159 5, bc_ BK159 6, bc_ BK167 0, bc_ BK167 1, bc_ BK167 2, bc_ BK167 3, bc_ BK167 4, bc_ BK167 5, bc_ BK167 6⟩ (fun hHeld => ?_)
             clear hK K
             refine norm_ (a' := ?_) ?_ ?_
             rotate_left
             ·show Act.put _ (some 25) _ = _
              simp only [Act.put, List.setIfInBounds_toArray, List.set_cons_zero, List.set_cons_succ, i64_w, i32_w]
              rfl
             exact nrm_ (hJ0_1_2_5_6_7 (.slice Ao49 y189.length co49, v194, gb196) _ ⟨hHeld, (kr_ HO195), (bk_ BK151), (bk_ BK159), (bk_ BK167), (bk_ BK196), GW196.out, GE196.out, NB151_196.out, NB196_151.out, NB159_196.out, NB196_159.out, NB167_196.out, NB196_167.out, (hb_ HB)⟩)
           ·skip
            rintro ⟨v190, v194⟩ w49 ⟨hS_, h0_, h1_, h2_, h3_, h4_⟩
            (try dsimp only at h0_ h1_ h2_ h3_ h4_)
            clear BK151
            clear BK159
            clear BK167
            clear HB
            have HO195 := Aside0.mk h0_
            have BK151 := Aside0.mk h1_
            have BK159 := Aside0.mk h2_
            have BK167 := Aside0.mk h3_
            have HB := Aside0.mk h4_
            clear h0_ h1_ h2_ h3_ h4_
            have hHeld : w49.cell? ⟨gb159, 0, none⟩ = some (.int .i64 4) ∧ w49.cell? ⟨gb159, 1, none⟩ = some (.int .i64 7) ∧ w49.cell? ⟨gb159, 2, none⟩ = some (.int .i64 0) ∧ w49.cell? ⟨gb159, 3, none⟩ = some (.int .i64 650) ∧ w49.cell? ⟨gb159, 4, none⟩ = some (.int .i64 7) ∧ w49.cell? ⟨gb159, 5, none⟩ = some (.int .i64 15) ∧ w49.cell? ⟨gb159, 6, none⟩ = some (.int .i64 0) ∧ w49.cell? ⟨gb167, 0, none⟩ = some (.int .i64 2) ∧ w49.cell? ⟨gb167, 1, none⟩ = some (.int .i64 2) ∧ w49.cell? ⟨gb167, 2, none⟩ = some (.int .i64 0) ∧ w49.cell? ⟨gb167, 3, none⟩ = some (.int .i64 1440) ∧ w49.cell? ⟨gb167, 4, none⟩ = some (.int .i64 40) ∧ w49.cell? ⟨gb167, 5, none⟩ = some (.int .i64 0) ∧ w49.cell? ⟨gb167, 6, none⟩ = some (.int .i64 0) := hS_
            refine norm_ (a' := ?_) ?_ ?_
            rotate_left
            ·simp only [putAll, Act.put, List.setIfInBounds_toArray, List.set_cons_zero, List.set_cons_succ]
             rfl
            refine one_ (i := 7) (N := some 4) #[true, true, true, true, true, true, true, true, false] rfl rfl (one_of HT_.out (by kernel_rfl)) (by decide) (fun K hK => ?_)
            refine box_step ?hg (N := 4) ?hd (cs := #[.string (⟨#[]⟩ : ByteArray), .slice none 0 0]) (t := 24) ?hr ?_; (case hd => rfl); (case hg => rfl); (case hr => first | (go_simp; done) | (go_simp; rfl))
            intro gb196 hg w50 hbox hb
            have n0_ := Aside0.mk (Kd.R_below (kr_ HO195) hb)
            have n1_ := (bb_ BK151 hb)
            have n2_ := (bb_ BK159 hb)
            have n3_ := (bb_ BK167 hb)
            have n4_ := Aside0.mk (below_step (hb_ HB) hb)
            have n5_ := Aside0.mk (hbox)
            have n6_ := Aside0.mk ((by rw [hg]; exact (below_size (hb_ HB)) : w.heap.size ≤ gb196))
            have n7_ := Aside0.mk ((by rw [hg]; exact (below_size (hb_ HB)) : w.heap.size ≤ gb196))
            have n8_ := (nlt_ BK151 hg)
            have n9_ := (ngt_ BK151 hg)
            have n10_ := (nlt_ BK159 hg)
            have n11_ := (ngt_ BK159 hg)
            have n12_ := (nlt_ BK167 hg)
            have n13_ := (ngt_ BK167 hg)
            clear HO195
            clear BK151
            clear BK159
            clear BK167
            clear HB
            have HO195 := n0_
            have BK151 := n1_
            have BK159 := n2_
            have BK167 := n3_
            have HB := n4_
            have BK196 := n5_
            have GW196 := n6_
            have GE196 := n7_
            have NB151_196 := n8_
            have NB196_151 := n9_
            have NB159_196 := n10_
            have NB196_159 := n11_
            have NB167_196 := n12_
            have NB196_167 := n13_
            clear n0_ n1_ n2_ n3_ n4_ n5_ n6_ n7_ n8_ n9_ n10_ n11_ n12_ n13_
            clear hb hbox hg
            refine hK.out _ _ ⟨bc_ BK159 0, bc_ BK159 1, bc_ BK159 2, bc_ BK159 3, bc_ BK159 4, bc_ BK159 5, bc_ BK159 6, bc_ BK167 0, bc_ BK167 1, bc_ BK167 2, bc_ BK167 3, bc_ BK167 4, bc_ BK167 5, bc_ BK167 6⟩ (fun hHeld => ?_)
            clear hK K
            refine norm_ (a' := ?_) ?_ ?_
            rotate_left
            ·show Act.put _ (some 4) _ = _
             simp only [Act.put, List.setIfInBounds_toArray, List.set_cons_zero, List.set_cons_succ, i64_w, i32_w]
             rfl
            exact nrm_ (hJ0_1_2_5_6_7 (v190, v194, gb196) _ ⟨hHeld, (kr_ HO195), (bk_ BK151), (bk_ BK159), (bk_ BK167), (bk_ BK196), GW196.out, GE196.out, NB151_196.out, NB196_151.out, NB159_196.out, NB196_159.out, NB167_196.out, NB196_167.out, (hb_ HB)⟩)
          rintro ⟨v190, v194, gb196⟩ w50 ⟨hS_, h0_, h1_, h2_, h3_, h4_, h5_, h6_, h7_, h8_, h9_, h10_, h11_, h12_, h13_⟩
          (try dsimp only at h0_ h1_ h2_ h3_ h4_ h5_ h6_ h7_ h8_ h9_ h10_ h11_ h12_ h13_)
          clear BK151
          clear BK159
          clear BK167
          clear HB
          have HO195 := Aside0.mk h0_
          have BK151 := Aside0.mk h1_
          have BK159 := Aside0.mk h2_
          have BK167 := Aside0.mk h3_
          have BK196 := Aside0.mk h4_
          have GW196 := Aside0.mk h5_
          have GE196 := Aside0.mk h6_
          have NB151_196 := Aside0.mk h7_
          have NB196_151 := Aside0.mk h8_
          have NB159_196 := Aside0.mk h9_
          have NB196_159 := Aside0.mk h10_
          have NB167_196 := Aside0.mk h11_
          have NB196_167 := Aside0.mk h12_
          have HB := Aside0.mk h13_
          clear h0_ h1_ h2_ h3_ h4_ h5_ h6_ h7_ h8_ h9_ h10_ h11_ h12_ h13_
          have hHeld : w50.cell? ⟨gb159, 0, none⟩ = some (.int .i64 4) ∧ w50.cell? ⟨gb159, 1, none⟩ = some (.int .i64 7) ∧ w50.cell? ⟨gb159, 2, none⟩ = some (.int .i64 0) ∧ w50.cell? ⟨gb159, 3, none⟩ = some (.int .i64 650) ∧ w50.cell? ⟨gb159, 4, none⟩ = some (.int .i64 7) ∧ w50.cell? ⟨gb159, 5, none⟩ = some (.int .i64 15) ∧ w50.cell? ⟨gb159, 6, none⟩ = some (.int .i64 0) ∧ w50.cell? ⟨gb167, 0, none⟩ = some (.int .i64 2) ∧ w50.cell? ⟨gb167, 1, none⟩ = some (.int .i64 2) ∧ w50.cell? ⟨gb167, 2, none⟩ = some (.int .i64 0) ∧ w50.cell? ⟨gb167, 3, none⟩ = some (.int .i64 1440) ∧ w50.cell? ⟨gb167, 4, none⟩ = some (.int .i64 40) ∧ w50.cell? ⟨gb167, 5, none⟩ = some (.int .i64 0) ∧ w50.cell? ⟨gb167, 6, none⟩ = some (.int .i64 0) := hS_
          obtain ⟨Ao52, co52, eo52⟩ := Kd.R_slice HO195.out
          (first | subst eo52 | (injection eo52 with f1_ f2_ f3_; have f4_ := f1_.symm; have f5_ := f3_.symm; clear f1_ f2_ f3_; subst f4_; subst f5_))
          refine norm_ (a' := ?_) ?_ ?_
          rotate_left
          ·simp only [putAll, Act.put, List.setIfInBounds_toArray, List.set_cons_zero, List.set_cons_succ]
           rfl
          refine one_ (i := 8) (N := none) #[true, true, true, true, true, true, true, true, true] rfl rfl (one_of HT_.out (by kernel_rfl)) (by decide) (fun K hK => ?_)
          have hs51 : w50.cell? ⟨gb196, 0, none⟩ = some (.string (⟨#[]⟩ : ByteArray)) := bc_ BK196 0
          have hfs51 := blk_frozen BK196.out 0
          have hns51_0 := NB151_196.out
          have hns51_1 := NB159_196.out
          have hns51_2 := NB167_196.out
          have hms51_0 := NB196_151.out
          have hms51_1 := NB196_159.out
          have hms51_2 := NB196_167.out
          have hs53 : w50.cell? ⟨gb196, 1, none⟩ = some (.slice none 0 0) := bc_ BK196 1
          have hfs53 := blk_frozen BK196.out 1
          have hns53_0 := NB151_196.out
          have hns53_1 := NB159_196.out
          have hns53_2 := NB167_196.out
          have hms53_0 := NB196_151.out
          have hms53_1 := NB196_159.out
          have hms53_2 := NB196_167.out
          refine skip_ (w1 := ?_) (by rfl) rfl ?_ ?_
          rotate_left
          ·go_simp
           rfl
          refine hK.out _ _ ⟨((cell_far (p := ⟨gb196, _, none⟩) NB159_196.out _).trans (((cell_far (p := ⟨gb196, _, none⟩) NB159_196.out _).trans (hHeld.1)))), ((cell_far (p := ⟨gb196, _, none⟩) NB159_196.out _).trans (((cell_far (p := ⟨gb196, _, none⟩) NB159_196.out _).trans (hHeld.2.1)))), ((cell_far (p := ⟨gb196, _, none⟩) NB159_196.out _).trans (((cell_far (p := ⟨gb196, _, none⟩) NB159_196.out _).trans (hHeld.2.2.1)))), ((cell_far (p := ⟨gb196, _, none⟩) NB159_196.out _).trans (((cell_far (p := ⟨gb196, _, none⟩) NB159_196.out _).trans (hHeld.2.2.2.1)))), ((cell_far (p := ⟨gb196, _, none⟩) NB159_196.out _).trans (((cell_far (p := ⟨gb196, _, none⟩) NB159_196.out _).trans (hHeld.2.2.2.2.1)))), ((cell_far (p := ⟨gb196, _, none⟩) NB159_196.out _).trans (((cell_far (p := ⟨gb196, _, none⟩) NB159_196.out _).trans (hHeld.2.2.2.2.2.1)))), ((cell_far (p := ⟨gb196, _, none⟩) NB159_196.out _).trans (((cell_far (p := ⟨gb196, _, none⟩) NB159_196.out _).trans (hHeld.2.2.2.2.2.2.1)))), ((cell_far (p := ⟨gb196, _, none⟩) NB167_196.out _).trans (((cell_far (p := ⟨gb196, _, none⟩) NB167_196.out _).trans (hHeld.2.2.2.2.2.2.2.1)))), ((cell_far (p := ⟨gb196, _, none⟩) NB167_196.out _).trans (((cell_far (p := ⟨gb196, _, none⟩) NB167_196.out _).trans (hHeld.2.2.2.2.2.2.2.2.1)))), ((cell_far (p := ⟨gb196, _, none⟩) NB167_196.out _).trans (((cell_far (p := ⟨gb196, _, none⟩) NB167_196.out _).trans (hHeld.2.2.2.2.2.2.2.2.2.1)))), ((cell_far (p := ⟨gb196, _, none⟩) NB167_196.out _).trans (((cell_far (p := ⟨gb196, _, none⟩) NB167_196.out _).trans (hHeld.2.2.2.2.2.2.2.2.2.2.1)))), ((cell_far (p := ⟨gb196, _, none⟩) NB167_196.out _).trans (((cell_far (p := ⟨gb196, _, none⟩) NB167_196.out _).trans (hHeld.2.2.2.2.2.2.2.2.2.2.2.1)))), ((cell_far (p := ⟨gb196, _, none⟩) NB167_196.out _).trans (((cell_far (p := ⟨gb196, _, none⟩) NB167_196.out _).trans (hHeld.2.2.2.2.2.2.2.2.2.2.2.2.1)))), ((cell_far (p := ⟨gb196, _, none⟩) NB167_196.out _).trans (((cell_far (p := ⟨gb196, _, none⟩) NB167_196.out _).trans (hHeld.2.2.2.2.2.2.2.2.2.2.2.2.2))))⟩ (fun hHeld => ?_)
          clear hK K
          refine done_ (done_of HT_.out (by kernel_rfl)) ?_
          try go_wp2
          obtain ⟨w54, hww⟩ : ∃ w_, ((w50.setCell ⟨gb196, 0, none⟩ (.string t192)).setCell ⟨gb196, 1, none⟩ (.slice Ao52 t193.length co52)) = w_ := ⟨_, rfl⟩
          have n0_ : Aside0 (Kd.R k26 26 w54 w.heap.size (fun k_ => k_ ≠ gb159 ∧ k_ ≠ gb167) (.slice Ao52 t193.length co52) t193) := ⟨by rw [← hww]; (with_reducible repeat (first | apply Kd.R_alloc | apply Kd.R_drewN | apply Kd.R_drew)); exact Kd.R_mono (Kd.R_far (p := ⟨gb196, 1, none⟩) (Kd.R_far (p := ⟨gb196, 0, none⟩) (Kd.R_types HO195.out BK196.out (by decide)) (fun _ hk => hk.2) (.string t192)) (fun _ hk => hk.2) (.slice Ao52 t193.length co52)) (fun _ hk => ⟨hk.1.1, hk.1.2⟩)⟩
          have n1_ := bf_ BK151 hww
          have n2_ := bf_ BK159 hww
          have n3_ := bf_ BK167 hww
          have n4_ : Aside0 (w54.heap[gb196]? = some (.cells #[.string t192, .slice Ao52 t193.length co52] 24 (0, 0))) := ⟨by rw [← hww]; (with_reducible repeat (first | refine blk_drewN ?_ _ | refine blk_drew ?_ | refine blk_alloc ?_ _)); refine blk_put (cs := #[.string t192, .slice none 0 0]) ?_ 1 _ rfl; (with_reducible repeat (first | refine blk_drewN ?_ _ | refine blk_drew ?_ | refine blk_alloc ?_ _)); refine blk_put (cs := #[.string (⟨#[]⟩ : ByteArray), .slice none 0 0]) ?_ 0 _ rfl; (with_reducible repeat (first | refine blk_drewN ?_ _ | refine blk_drew ?_ | refine blk_alloc ?_ _)); exact BK196.out⟩
          have n5_ := bw_ HB hww
          (try clear HO195)
          (try clear BK151)
          (try clear BK159)
          (try clear BK167)
          (try clear BK196)
          (try clear HB)
          rw [hww]
          clear hww
          have HO195 := n0_
          have BK151 := n1_
          have BK159 := n2_
          have BK167 := n3_
          have BK196 := n4_
          have HB := n5_
          clear n0_ n1_ n2_ n3_ n4_ n5_
          have n0_ := Aside0.mk (Kd.R_drew HO195.out)
          have n1_ := Aside0.mk (blk_drew BK151.out)
          have n2_ := Aside0.mk (blk_drew BK159.out)
          have n3_ := Aside0.mk (blk_drew BK167.out)
          have n4_ := Aside0.mk (blk_drew BK196.out)
          have n5_ := Aside0.mk (below_drew1 HB.out)
          clear HO195
          clear BK151
          clear BK159
          clear BK167
          clear BK196
          clear HB
          have HO195 := n0_
          have BK151 := n1_
          have BK159 := n2_
          have BK167 := n3_
          have BK196 := n4_
          have HB := n5_
          clear n0_ n1_ n2_ n3_ n4_ n5_
          refine start_ (n := 10) (S := fun w' => w'.cell? ⟨gb196, 0, none⟩ = some (.string t192) ∧ w'.cell? ⟨gb196, 1, none⟩ = some (.slice Ao52 t193.length co52) ∧ w'.cell? ⟨gb151, 0, none⟩ = some (.int .i64 0) ∧ w'.cell? ⟨gb151, 1, none⟩ = some (.slice none 0 0) ∧ w'.cell? ⟨gb151, 2, none⟩ = some (.slice none 0 0)) (ds := []) #[false, false, false, false, false, false, false, false, false, false] (by kernel_rfl) rfl rfl ⟨bc_ BK196 0, bc_ BK196 1, bc_ BK151 0, bc_ BK151 1, bc_ BK151 2⟩ (fun hHeld => ?_); refine with_tabW chargeparklaw33_head.tab7 chargeparklaw33_head.bits7 (fun HT_ HW_ => ?_)
          generalize w54.drew = w55 at HO195 BK151 BK159 BK167 BK196 HB hHeld ⊢
          refine take_ (i := 0) (N := some 27) (v := ?_) (a' := ?_) #[true, false, false, false, false, false, false, false, false, false] rfl rfl (take_ofW HT_.out HW_.out (by kernel_rfl)) (fun _ _ _ h => h) (Or.inl ⟨by rfl, ?_⟩) hHeld ?_ ?_
          rotate_left
          ·rintro w' ⟨s0, s1, s2, s3, s4⟩
           go_simp
           with_reducible rfl
          rotate_left
          ·simp only [Act.put, List.setIfInBounds_toArray, List.set_cons_zero, List.set_cons_succ, i64_w, i32_w]
           rfl
          refine take_ (i := 1) (N := some 28) (v := ?_) (a' := ?_) #[true, true, false, false, false, false, false, false, false, false] rfl rfl (take_ofW HT_.out HW_.out (by kernel_rfl)) (fun _ _ _ h => h) (Or.inl ⟨by rfl, ?_⟩) hHeld ?_ ?_
          rotate_left
          ·rintro w' ⟨s0, s1, s2, s3, s4⟩
           go_simp
           with_reducible rfl
          rotate_left
          ·simp only [Act.put, List.setIfInBounds_toArray, List.set_cons_zero, List.set_cons_succ, i64_w, i32_w]
           rfl
          refine join_ (σ := Value × Value × Nat) 2 #[true, true, true, true, true, true, true, true, false, false] (fun s_ => [(29, .agg #[.int .i64 600, .int .i64 660, .int .i64 640, s_.1]), (30, .tuple #[.agg #[s_.2.1, .int .i64 16802, .int .i64 0, .int .i64 16802], .int .i64 0]), (5, .pointer (some ⟨s_.2.2, 0, none⟩)), (26, .tuple #[.agg #[s_.2.1, .int .i64 16802, .int .i64 0, .int .i64 16802], .int .i64 0]), (31, .agg #[s_.2.1, .int .i64 16802, .int .i64 0, .int .i64 16802]), (32, .int .i64 0)]) (fun s_ w' => (w'.cell? ⟨gb196, 0, none⟩ = some (.string t192) ∧ w'.cell? ⟨gb196, 1, none⟩ = some (.slice Ao52 t193.length co52) ∧ w'.cell? ⟨gb151, 0, none⟩ = some (.int .i64 0) ∧ w'.cell? ⟨gb151, 1, none⟩ = some (.slice none 0 0) ∧ w'.cell? ⟨gb151, 2, none⟩ = some (.slice none 0 0)) ∧ (Kd.R k26 26 w' w.heap.size (fun k_ => k_ ≠ gb159 ∧ k_ ≠ gb167) (.slice Ao52 t193.length co52) t193) ∧ (Kd.R k50 50 w' w.heap.size (fun _ => True) s_.1 t200) ∧ (Kd.R k48 48 w' w.heap.size (fun _ => True) s_.2.1 t203) ∧ (w'.heap[gb151]? = some (.cells #[.int .i64 0, .slice none 0 0, .slice none 0 0] 30 (0, 0))) ∧ (w'.heap[gb159]? = some (.cells #[.int .i64 4, .int .i64 7, .int .i64 0, .int .i64 650, .int .i64 7, .int .i64 15, .int .i64 0] 26 (0, 0))) ∧ (w'.heap[gb167]? = some (.cells #[.int .i64 2, .int .i64 2, .int .i64 0, .int .i64 1440, .int .i64 40, .int .i64 0, .int .i64 0] 26 (0, 0))) ∧ (w'.heap[gb196]? = some (.cells #[.string t192, .slice Ao52 t193.length co52] 24 (0, 0))) ∧ (w'.heap[s_.2.2]? = some (.cells #[.slice none 0 0, .int .i64 0, .int .i64 0, .int .i64 0] 38 (0, 0))) ∧ (w.heap.size ≤ s_.2.2) ∧ (w.heap.size ≤ s_.2.2) ∧ (gb151 ≠ s_.2.2) ∧ (s_.2.2 ≠ gb151) ∧ (gb159 ≠ s_.2.2) ∧ (s_.2.2 ≠ gb159) ∧ (gb167 ≠ s_.2.2) ∧ (s_.2.2 ≠ gb167) ∧ (gb196 ≠ s_.2.2) ∧ (s_.2.2 ≠ gb196) ∧ (Below w.heap.size w w')) ?_ ?_
          rotate_left
          ·intro hCont
           refine two_ (i := 2) (j := 7) (Ni := some 29) (Nj := some 5) #[true, true, true, false, false, false, false, false, false, false] #[true, true, false, false, false, false, false, true, false, false] rfl rfl rfl rfl (two_of HT_.out (by kernel_rfl)) (by decide) (by decide) (fun K hK => ?_) (fun K hK => ?_)
           ·skip
            refine goes_ Try.func55 (by kernel_rfl) rfl #[] (by rfl) rfl rfl mp_ ?_
            with_reducible refine (chargeparklaw33_example.calls  600 660 640 t200 _ A7.out).mono ?_
            rintro e w56 ⟨v201, rfl, ho0, hb⟩
            refine ⟨_, rfl, ?_⟩
            have n0_ := Aside0.mk (Kd.R_below (kr_ HO195) hb)
            have n1_ := Aside0.mk (Kd.R_lower ho0 (below_size (hb_ HB)))
            have n2_ := (bb_ BK151 hb)
            have n3_ := (bb_ BK159 hb)
            have n4_ := (bb_ BK167 hb)
            have n5_ := (bb_ BK196 hb)
            have n6_ := Aside0.mk (below_step (hb_ HB) hb)
            clear HO195
            clear BK151
            clear BK159
            clear BK167
            clear BK196
            clear HB
            have HO195 := n0_
            have HO202 := n1_
            have BK151 := n2_
            have BK159 := n3_
            have BK167 := n4_
            have BK196 := n5_
            have HB := n6_
            clear n0_ n1_ n2_ n3_ n4_ n5_ n6_
            (try clear hb)
            (try clear hb2)
            (try clear hk)
            (try clear hi)
            (try clear ho0)
            obtain ⟨Ao57, co57, eo57⟩ := Kd.R_slice HO202.out
            (first | subst eo57 | (injection eo57 with f1_ f2_ f3_; have f4_ := f1_.symm; have f5_ := f3_.symm; clear f1_ f2_ f3_; subst f4_; subst f5_))
            refine hK.out _ _ ⟨bc_ BK196 0, bc_ BK196 1, bc_ BK151 0, bc_ BK151 1, bc_ BK151 2⟩ (fun hHeld => ?_)
            clear hK K
            refine norm_ (a' := ?_) ?_ ?_
            rotate_left
            ·show Act.put _ (some 29) _ = _
             simp only [Act.put, List.setIfInBounds_toArray, List.set_cons_zero, List.set_cons_succ, i64_w, i32_w]
             rfl
            refine two_ (i := 3) (j := 7) (Ni := some 30) (Nj := some 5) #[true, true, true, true, false, false, false, false, false, false] #[true, true, true, false, false, false, false, true, false, false] rfl rfl rfl rfl (two_of HT_.out (by kernel_rfl)) (by decide) (by decide) (fun K hK => ?_) (fun K hK => ?_)
            ·skip
             refine goes_ Try.func27 (by kernel_rfl) rfl #[.agg #[.string t192, .slice Ao52 t193.length co52], .agg #[.int .i64 0, .slice none 0 0, .slice none 0 0], .agg #[.int .i64 600, .int .i64 660, .int .i64 640, .slice Ao57 t200.length co57]] (by rfl) rfl rfl mp_ ?_
             refine (bill_Bill.calls t192 _ _ t193 0 _ _ ([] : List (S99)) _ _ ([] : List Int) 600 660 640 _ _ t200 t203 16802 0 16802 0 _ ?side1 ?side2 ?side3 ?side4 ?side5 ?side6 ?side7 ?side8 A8.out).mono ?_
             (case side1 => repeat (first | exact (Kd.R_reads' HO195.out).2.2 | (with_reducible refine Kd.C_alloc ?_ _) | (with_reducible refine Kd.C_drewN ?_ _) | (with_reducible refine Kd.C_drew ?_)))
             (case side2 => exact (Kd.R_reads' HO195.out).2.1)
             (case side3 => exact Kd.C_nil _ _)
             (case side4 => exact Nat.le_refl _)
             (case side5 => exact Kd.C_nil _ _)
             (case side6 => exact Nat.le_refl _)
             (case side7 => repeat (first | exact (Kd.R_reads' HO202.out).2.2 | (with_reducible refine Kd.C_alloc ?_ _) | (with_reducible refine Kd.C_drewN ?_ _) | (with_reducible refine Kd.C_drew ?_)))
             (case side8 => exact (Kd.R_reads' HO202.out).2.1)
             rintro e w58 ⟨v204, rfl, ho0, hb⟩
             refine ⟨_, rfl, ?_⟩
             have n0_ := Aside0.mk (Kd.R_below (kr_ HO195) hb)
             have n1_ := Aside0.mk (Kd.R_below (kr_ HO202) hb)
             have n2_ := Aside0.mk (Kd.R_lower ho0 (below_size (hb_ HB)))
             have n3_ := (bb_ BK151 hb)
             have n4_ := (bb_ BK159 hb)
             have n5_ := (bb_ BK167 hb)
             have n6_ := (bb_ BK196 hb)
             have n7_ := Aside0.mk (below_step (hb_ HB) hb)
             clear HO195
             clear HO202
             clear BK151
             clear BK159
             clear BK167
             clear BK196
             clear HB
             have HO195 := n0_
             have HO202 := n1_
             have HO205 := n2_
             have BK151 := n3_
             have BK159 := n4_
             have BK167 := n5_
             have BK196 := n6_
             have HB := n7_
             clear n0_ n1_ n2_ n3_ n4_ n5_ n6_ n7_
             (try clear hb)
             (try clear hb2)
             (try clear hk)
             (try clear hi)
             (try clear ho0)
             refine hK.out _ _ ⟨bc_ BK196 0, bc_ BK196 1, bc_ BK151 0, bc_ BK151 1, bc_ BK151 2⟩ (fun hHeld => ?_)
             clear hK K
             refine norm_ (a' := ?_) ?_ ?_
             rotate_left
             ·show Act.put _ (some 30) _ = _
              simp only [Act.put, List.setIfInBounds_toArray, List.set_cons_zero, List.set_cons_succ, i64_w, i32_w]
              rfl
             refine pure_ (i := 4) (N := some 26) (v := ?_) (a' := ?_) #[true, true, true, true, true, false, false, false, false, false] rfl rfl (any_of HT_.out (by kernel_rfl)) (fun _ _ _ h => h) (Or.inl ⟨by rfl, ?_⟩) ?_ ?_
             rotate_left
             ·intro w'
              go_simp
              with_reducible rfl
             rotate_left
             ·simp only [Act.put, List.setIfInBounds_toArray, List.set_cons_zero, List.set_cons_succ, i64_w, i32_w]
              rfl
             refine pure_ (i := 5) (N := some 31) (v := ?_) (a' := ?_) #[true, true, true, true, true, true, false, false, false, false] rfl rfl (any_of HT_.out (by kernel_rfl)) (fun _ _ _ h => h) (Or.inl ⟨by rfl, ?_⟩) ?_ ?_
             rotate_left
             ·intro w'
              go_simp
              with_reducible rfl
             rotate_left
             ·simp only [Act.put, List.setIfInBounds_toArray, List.set_cons_zero, List.set_cons_succ, i64_w, i32_w]
              rfl
             refine pure_ (i := 6) (N := some 32) (v := ?_) (a' := ?_) #[true, true, true, true, true, true, true, false, false, false] rfl rfl (any_of HT_.out (by kernel_rfl)) (fun _ _ _ h => h) (Or.inl ⟨by rfl, ?_⟩) ?_ ?_
             rotate_left
             ·intro w'
              go_simp
              with_reducible rfl
             rotate_left
             ·simp only [Act.put, List.setIfInBounds_toArray, List.set_cons_zero, List.set_cons_succ, i64_w, i32_w]
              rfl
             refine one_ (i := 7) (N := some 5) #[true, true, true, true, true, true, true, true, false, false] rfl rfl (one_of HT_.out (by kernel_rfl)) (by decide) (fun K hK => ?_)
             refine box_step ?hg (N := 5) ?hd (cs := #[.slice none 0 0, .int .i64 0, .int .i64 0, .int .i64 0]) (t := 38) ?hr ?_; (case hd => rfl); (case hg => rfl); (case hr => first | (go_simp; done) | (go_simp; rfl))
             intro gb210 hg w59 hbox hb
             have n0_ := Aside0.mk (Kd.R_below (kr_ HO195) hb)
             have n1_ := Aside0.mk (Kd.R_below (kr_ HO202) hb)
             have n2_ := Aside0.mk (Kd.R_below (kr_ HO205) hb)
             have n3_ := (bb_ BK151 hb)
             have n4_ := (bb_ BK159 hb)
             have n5_ := (bb_ BK167 hb)
             have n6_ := (bb_ BK196 hb)
             have n7_ := Aside0.mk (below_step (hb_ HB) hb)
             have n8_ := Aside0.mk (hbox)
             have n9_ := Aside0.mk ((by rw [hg]; exact (below_size (hb_ HB)) : w.heap.size ≤ gb210))
             have n10_ := Aside0.mk ((by rw [hg]; exact (below_size (hb_ HB)) : w.heap.size ≤ gb210))
             have n11_ := (nlt_ BK151 hg)
             have n12_ := (ngt_ BK151 hg)
             have n13_ := (nlt_ BK159 hg)
             have n14_ := (ngt_ BK159 hg)
             have n15_ := (nlt_ BK167 hg)
             have n16_ := (ngt_ BK167 hg)
             have n17_ := (nlt_ BK196 hg)
             have n18_ := (ngt_ BK196 hg)
             clear HO195
             clear HO202
             clear HO205
             clear BK151
             clear BK159
             clear BK167
             clear BK196
             clear HB
             have HO195 := n0_
             have HO202 := n1_
             have HO205 := n2_
             have BK151 := n3_
             have BK159 := n4_
             have BK167 := n5_
             have BK196 := n6_
             have HB := n7_
             have BK210 := n8_
             have GW210 := n9_
             have GE210 := n10_
             have NB151_210 := n11_
             have NB210_151 := n12_
             have NB159_210 := n13_
             have NB210_159 := n14_
             have NB167_210 := n15_
             have NB210_167 := n16_
             have NB196_210 := n17_
             have NB210_196 := n18_
             clear n0_ n1_ n2_ n3_ n4_ n5_ n6_ n7_ n8_ n9_ n10_ n11_ n12_ n13_ n14_ n15_ n16_ n17_ n18_
             clear hb hbox hg
             refine hK.out _ _ ⟨bc_ BK196 0, bc_ BK196 1, bc_ BK151 0, bc_ BK151 1, bc_ BK151 2⟩ (fun hHeld => ?_)
             clear hK K
             refine norm_ (a' := ?_) ?_ ?_
             rotate_left
             ·show Act.put _ (some 5) _ = _
              simp only [Act.put, List.setIfInBounds_toArray, List.set_cons_zero, List.set_cons_succ, i64_w, i32_w]
              rfl
             exact nrm_ (hCont (.slice Ao57 t200.length co57, v204, gb210) _ ⟨hHeld, (kr_ HO195), (kr_ HO202), (kr_ HO205), (bk_ BK151), (bk_ BK159), (bk_ BK167), (bk_ BK196), (bk_ BK210), GW210.out, GE210.out, NB151_210.out, NB210_151.out, NB159_210.out, NB210_159.out, NB167_210.out, NB210_167.out, NB196_210.out, NB210_196.out, (hb_ HB)⟩)
            ·skip
             refine box_step ?hg (N := 5) ?hd (cs := #[.slice none 0 0, .int .i64 0, .int .i64 0, .int .i64 0]) (t := 38) ?hr ?_; (case hd => rfl); (case hg => rfl); (case hr => first | (go_simp; done) | (go_simp; rfl))
             intro gb210 hg w57 hbox hb
             have n0_ := Aside0.mk (Kd.R_below (kr_ HO195) hb)
             have n1_ := Aside0.mk (Kd.R_below (kr_ HO202) hb)
             have n2_ := (bb_ BK151 hb)
             have n3_ := (bb_ BK159 hb)
             have n4_ := (bb_ BK167 hb)
             have n5_ := (bb_ BK196 hb)
             have n6_ := Aside0.mk (below_step (hb_ HB) hb)
             have n7_ := Aside0.mk (hbox)
             have n8_ := Aside0.mk ((by rw [hg]; exact (below_size (hb_ HB)) : w.heap.size ≤ gb210))
             have n9_ := Aside0.mk ((by rw [hg]; exact (below_size (hb_ HB)) : w.heap.size ≤ gb210))
             have n10_ := (nlt_ BK151 hg)
             have n11_ := (ngt_ BK151 hg)
             have n12_ := (nlt_ BK159 hg)
             have n13_ := (ngt_ BK159 hg)
             have n14_ := (nlt_ BK167 hg)
             have n15_ := (ngt_ BK167 hg)
             have n16_ := (nlt_ BK196 hg)
             have n17_ := (ngt_ BK196 hg)
             clear HO195
             clear HO202
             clear BK151
             clear BK159
             clear BK167
             clear BK196
             clear HB
             have HO195 := n0_
             have HO202 := n1_
             have BK151 := n2_
             have BK159 := n3_
             have BK167 := n4_
             have BK196 := n5_
             have HB := n6_
             have BK210 := n7_
             have GW210 := n8_
             have GE210 := n9_
             have NB151_210 := n10_
             have NB210_151 := n11_
             have NB159_210 := n12_
             have NB210_159 := n13_
             have NB167_210 := n14_
             have NB210_167 := n15_
             have NB196_210 := n16_
             have NB210_196 := n17_
             clear n0_ n1_ n2_ n3_ n4_ n5_ n6_ n7_ n8_ n9_ n10_ n11_ n12_ n13_ n14_ n15_ n16_ n17_
             clear hb hbox hg
             obtain ⟨Ao58, co58, eo58⟩ := Kd.R_slice HO202.out
             (first | subst eo58 | (injection eo58 with f1_ f2_ f3_; have f4_ := f1_.symm; have f5_ := f3_.symm; clear f1_ f2_ f3_; subst f4_; subst f5_))
             refine hK.out _ _ ⟨bc_ BK196 0, bc_ BK196 1, bc_ BK151 0, bc_ BK151 1, bc_ BK151 2⟩ (fun hHeld => ?_)
             clear hK K
             refine norm_ (a' := ?_) ?_ ?_
             rotate_left
             ·show Act.put _ (some 5) _ = _
              simp only [Act.put, List.setIfInBounds_toArray, List.set_cons_zero, List.set_cons_succ, i64_w, i32_w]
              rfl
             refine one_ (i := 3) (N := some 30) #[true, true, true, true, false, false, false, true, false, false] rfl rfl (one_of HT_.out (by kernel_rfl)) (by decide) (fun K hK => ?_)
             refine goes_ Try.func27 (by kernel_rfl) rfl #[.agg #[.string t192, .slice Ao52 t193.length co52], .agg #[.int .i64 0, .slice none 0 0, .slice none 0 0], .agg #[.int .i64 600, .int .i64 660, .int .i64 640, .slice Ao58 t200.length co58]] (by rfl) rfl rfl mp_ ?_
             refine (bill_Bill.calls t192 _ _ t193 0 _ _ ([] : List (S99)) _ _ ([] : List Int) 600 660 640 _ _ t200 t203 16802 0 16802 0 _ ?side1 ?side2 ?side3 ?side4 ?side5 ?side6 ?side7 ?side8 A8.out).mono ?_
             (case side1 => repeat (first | exact (Kd.R_reads' HO195.out).2.2 | (with_reducible refine Kd.C_alloc ?_ _) | (with_reducible refine Kd.C_drewN ?_ _) | (with_reducible refine Kd.C_drew ?_)))
             (case side2 => exact (Kd.R_reads' HO195.out).2.1)
             (case side3 => exact Kd.C_nil _ _)
             (case side4 => exact Nat.le_refl _)
             (case side5 => exact Kd.C_nil _ _)
             (case side6 => exact Nat.le_refl _)
             (case side7 => repeat (first | exact (Kd.R_reads' HO202.out).2.2 | (with_reducible refine Kd.C_alloc ?_ _) | (with_reducible refine Kd.C_drewN ?_ _) | (with_reducible refine Kd.C_drew ?_)))
             (case side8 => exact (Kd.R_reads' HO202.out).2.1)
             rintro e w59 ⟨v204, rfl, ho0, hb⟩
             refine ⟨_, rfl, ?_⟩
             have n0_ := Aside0.mk (Kd.R_below (kr_ HO195) hb)
             have n1_ := Aside0.mk (Kd.R_below (kr_ HO202) hb)
             have n2_ := Aside0.mk (Kd.R_lower ho0 (below_size (hb_ HB)))
             have n3_ := (bb_ BK151 hb)
             have n4_ := (bb_ BK159 hb)
             have n5_ := (bb_ BK167 hb)
             have n6_ := (bb_ BK196 hb)
             have n7_ := (bb_ BK210 hb)
             have n8_ := Aside0.mk (below_step (hb_ HB) hb)
             clear HO195
             clear HO202
             clear BK151
             clear BK159
             clear BK167
             clear BK196
             clear BK210
             clear HB
             have HO195 := n0_
             have HO202 := n1_
             have HO205 := n2_
             have BK151 := n3_
             have BK159 := n4_
             have BK167 := n5_
             have BK196 := n6_
             have BK210 := n7_
             have HB := n8_
             clear n0_ n1_ n2_ n3_ n4_ n5_ n6_ n7_ n8_
             (try clear hb)
             (try clear hb2)
             (try clear hk)
             (try clear hi)
             (try clear ho0)
             refine hK.out _ _ ⟨bc_ BK196 0, bc_ BK196 1, bc_ BK151 0, bc_ BK151 1, bc_ BK151 2⟩ (fun hHeld => ?_)
             clear hK K
             refine norm_ (a' := ?_) ?_ ?_
             rotate_left
             ·show Act.put _ (some 30) _ = _
              simp only [Act.put, List.setIfInBounds_toArray, List.set_cons_zero, List.set_cons_succ, i64_w, i32_w]
              rfl
             refine pure_ (i := 4) (N := some 26) (v := ?_) (a' := ?_) #[true, true, true, true, true, false, false, true, false, false] rfl rfl (any_of HT_.out (by kernel_rfl)) (fun _ _ _ h => h) (Or.inl ⟨by rfl, ?_⟩) ?_ ?_
             rotate_left
             ·intro w'
              go_simp
              with_reducible rfl
             rotate_left
             ·simp only [Act.put, List.setIfInBounds_toArray, List.set_cons_zero, List.set_cons_succ, i64_w, i32_w]
              rfl
             refine pure_ (i := 5) (N := some 31) (v := ?_) (a' := ?_) #[true, true, true, true, true, true, false, true, false, false] rfl rfl (any_of HT_.out (by kernel_rfl)) (fun _ _ _ h => h) (Or.inl ⟨by rfl, ?_⟩) ?_ ?_
             rotate_left
             ·intro w'
              go_simp
              with_reducible rfl
             rotate_left
             ·simp only [Act.put, List.setIfInBounds_toArray, List.set_cons_zero, List.set_cons_succ, i64_w, i32_w]
              rfl
             refine pure_ (i := 6) (N := some 32) (v := ?_) (a' := ?_) #[true, true, true, true, true, true, true, true, false, false] rfl rfl (any_of HT_.out (by kernel_rfl)) (fun _ _ _ h => h) (Or.inl ⟨by rfl, ?_⟩) ?_ ?_
             rotate_left
             ·intro w'
              go_simp
              with_reducible rfl
             rotate_left
             ·simp only [Act.put, List.setIfInBounds_toArray, List.set_cons_zero, List.set_cons_succ, i64_w, i32_w]
              rfl
             exact nrm_ (hCont (.slice Ao58 t200.length co58, v204, gb210) _ ⟨hHeld, (kr_ HO195), (kr_ HO202), (kr_ HO205), (bk_ BK151), (bk_ BK159), (bk_ BK167), (bk_ BK196), (bk_ BK210), GW210.out, GE210.out, NB151_210.out, NB210_151.out, NB159_210.out, NB210_159.out, NB167_210.out, NB210_167.out, NB196_210.out, NB210_196.out, (hb_ HB)⟩)
           ·skip
            refine box_step ?hg (N := 5) ?hd (cs := #[.slice none 0 0, .int .i64 0, .int .i64 0, .int .i64 0]) (t := 38) ?hr ?_; (case hd => rfl); (case hg => rfl); (case hr => first | (go_simp; done) | (go_simp; rfl))
            intro gb210 hg w56 hbox hb
            have n0_ := Aside0.mk (Kd.R_below (kr_ HO195) hb)
            have n1_ := (bb_ BK151 hb)
            have n2_ := (bb_ BK159 hb)
            have n3_ := (bb_ BK167 hb)
            have n4_ := (bb_ BK196 hb)
            have n5_ := Aside0.mk (below_step (hb_ HB) hb)
            have n6_ := Aside0.mk (hbox)
            have n7_ := Aside0.mk ((by rw [hg]; exact (below_size (hb_ HB)) : w.heap.size ≤ gb210))
            have n8_ := Aside0.mk ((by rw [hg]; exact (below_size (hb_ HB)) : w.heap.size ≤ gb210))
            have n9_ := (nlt_ BK151 hg)
            have n10_ := (ngt_ BK151 hg)
            have n11_ := (nlt_ BK159 hg)
            have n12_ := (ngt_ BK159 hg)
            have n13_ := (nlt_ BK167 hg)
            have n14_ := (ngt_ BK167 hg)
            have n15_ := (nlt_ BK196 hg)
            have n16_ := (ngt_ BK196 hg)
            clear HO195
            clear BK151
            clear BK159
            clear BK167
            clear BK196
            clear HB
            have HO195 := n0_
            have BK151 := n1_
            have BK159 := n2_
            have BK167 := n3_
            have BK196 := n4_
            have HB := n5_
            have BK210 := n6_
            have GW210 := n7_
            have GE210 := n8_
            have NB151_210 := n9_
            have NB210_151 := n10_
            have NB159_210 := n11_
            have NB210_159 := n12_
            have NB167_210 := n13_
            have NB210_167 := n14_
            have NB196_210 := n15_
            have NB210_196 := n16_
            clear n0_ n1_ n2_ n3_ n4_ n5_ n6_ n7_ n8_ n9_ n10_ n11_ n12_ n13_ n14_ n15_ n16_
            clear hb hbox hg
            refine hK.out _ _ ⟨bc_ BK196 0, bc_ BK196 1, bc_ BK151 0, bc_ BK151 1, bc_ BK151 2⟩ (fun hHeld => ?_)
            clear hK K
            refine norm_ (a' := ?_) ?_ ?_
            rotate_left
            ·show Act.put _ (some 5) _ = _
             simp only [Act.put, List.setIfInBounds_toArray, List.set_cons_zero, List.set_cons_succ, i64_w, i32_w]
             rfl
            refine one_ (i := 2) (N := some 29) #[true, true, true, false, false, false, false, true, false, false] rfl rfl (one_of HT_.out (by kernel_rfl)) (by decide) (fun K hK => ?_)
            refine goes_ Try.func55 (by kernel_rfl) rfl #[] (by rfl) rfl rfl mp_ ?_
            with_reducible refine (chargeparklaw33_example.calls  600 660 640 t200 _ A7.out).mono ?_
            rintro e w57 ⟨v201, rfl, ho0, hb⟩
            refine ⟨_, rfl, ?_⟩
            have n0_ := Aside0.mk (Kd.R_below (kr_ HO195) hb)
            have n1_ := Aside0.mk (Kd.R_lower ho0 (below_size (hb_ HB)))
            have n2_ := (bb_ BK151 hb)
            have n3_ := (bb_ BK159 hb)
            have n4_ := (bb_ BK167 hb)
            have n5_ := (bb_ BK196 hb)
            have n6_ := (bb_ BK210 hb)
            have n7_ := Aside0.mk (below_step (hb_ HB) hb)
            clear HO195
            clear BK151
            clear BK159
            clear BK167
            clear BK196
            clear BK210
            clear HB
            have HO195 := n0_
            have HO202 := n1_
            have BK151 := n2_
            have BK159 := n3_
            have BK167 := n4_
            have BK196 := n5_
            have BK210 := n6_
            have HB := n7_
            clear n0_ n1_ n2_ n3_ n4_ n5_ n6_ n7_
            (try clear hb)
            (try clear hb2)
            (try clear hk)
            (try clear hi)
            (try clear ho0)
            obtain ⟨Ao58, co58, eo58⟩ := Kd.R_slice HO202.out
            (first | subst eo58 | (injection eo58 with f1_ f2_ f3_; have f4_ := f1_.symm; have f5_ := f3_.symm; clear f1_ f2_ f3_; subst f4_; subst f5_))
            refine hK.out _ _ ⟨bc_ BK196 0, bc_ BK196 1, bc_ BK151 0, bc_ BK151 1, bc_ BK151 2⟩ (fun hHeld => ?_)
            clear hK K
            refine norm_ (a' := ?_) ?_ ?_
            rotate_left
            ·show Act.put _ (some 29) _ = _
             simp only [Act.put, List.setIfInBounds_toArray, List.set_cons_zero, List.set_cons_succ, i64_w, i32_w]
             rfl
            refine one_ (i := 3) (N := some 30) #[true, true, true, true, false, false, false, true, false, false] rfl rfl (one_of HT_.out (by kernel_rfl)) (by decide) (fun K hK => ?_)
            refine goes_ Try.func27 (by kernel_rfl) rfl #[.agg #[.string t192, .slice Ao52 t193.length co52], .agg #[.int .i64 0, .slice none 0 0, .slice none 0 0], .agg #[.int .i64 600, .int .i64 660, .int .i64 640, .slice Ao58 t200.length co58]] (by rfl) rfl rfl mp_ ?_
            refine (bill_Bill.calls t192 _ _ t193 0 _ _ ([] : List (S99)) _ _ ([] : List Int) 600 660 640 _ _ t200 t203 16802 0 16802 0 _ ?side1 ?side2 ?side3 ?side4 ?side5 ?side6 ?side7 ?side8 A8.out).mono ?_
            (case side1 => repeat (first | exact (Kd.R_reads' HO195.out).2.2 | (with_reducible refine Kd.C_alloc ?_ _) | (with_reducible refine Kd.C_drewN ?_ _) | (with_reducible refine Kd.C_drew ?_)))
            (case side2 => exact (Kd.R_reads' HO195.out).2.1)
            (case side3 => exact Kd.C_nil _ _)
            (case side4 => exact Nat.le_refl _)
            (case side5 => exact Kd.C_nil _ _)
            (case side6 => exact Nat.le_refl _)
            (case side7 => repeat (first | exact (Kd.R_reads' HO202.out).2.2 | (with_reducible refine Kd.C_alloc ?_ _) | (with_reducible refine Kd.C_drewN ?_ _) | (with_reducible refine Kd.C_drew ?_)))
            (case side8 => exact (Kd.R_reads' HO202.out).2.1)
            rintro e w59 ⟨v204, rfl, ho0, hb⟩
            refine ⟨_, rfl, ?_⟩
            have n0_ := Aside0.mk (Kd.R_below (kr_ HO195) hb)
            have n1_ := Aside0.mk (Kd.R_below (kr_ HO202) hb)
            have n2_ := Aside0.mk (Kd.R_lower ho0 (below_size (hb_ HB)))
            have n3_ := (bb_ BK151 hb)
            have n4_ := (bb_ BK159 hb)
            have n5_ := (bb_ BK167 hb)
            have n6_ := (bb_ BK196 hb)
            have n7_ := (bb_ BK210 hb)
            have n8_ := Aside0.mk (below_step (hb_ HB) hb)
            clear HO195
            clear HO202
            clear BK151
            clear BK159
            clear BK167
            clear BK196
            clear BK210
            clear HB
            have HO195 := n0_
            have HO202 := n1_
            have HO205 := n2_
            have BK151 := n3_
            have BK159 := n4_
            have BK167 := n5_
            have BK196 := n6_
            have BK210 := n7_
            have HB := n8_
            clear n0_ n1_ n2_ n3_ n4_ n5_ n6_ n7_ n8_
            (try clear hb)
            (try clear hb2)
            (try clear hk)
            (try clear hi)
            (try clear ho0)
            refine hK.out _ _ ⟨bc_ BK196 0, bc_ BK196 1, bc_ BK151 0, bc_ BK151 1, bc_ BK151 2⟩ (fun hHeld => ?_)
            clear hK K
            refine norm_ (a' := ?_) ?_ ?_
            rotate_left
            ·show Act.put _ (some 30) _ = _
             simp only [Act.put, List.setIfInBounds_toArray, List.set_cons_zero, List.set_cons_succ, i64_w, i32_w]
             rfl
            refine pure_ (i := 4) (N := some 26) (v := ?_) (a' := ?_) #[true, true, true, true, true, false, false, true, false, false] rfl rfl (any_of HT_.out (by kernel_rfl)) (fun _ _ _ h => h) (Or.inl ⟨by rfl, ?_⟩) ?_ ?_
            rotate_left
            ·intro w'
             go_simp
             with_reducible rfl
            rotate_left
            ·simp only [Act.put, List.setIfInBounds_toArray, List.set_cons_zero, List.set_cons_succ, i64_w, i32_w]
             rfl
            refine pure_ (i := 5) (N := some 31) (v := ?_) (a' := ?_) #[true, true, true, true, true, true, false, true, false, false] rfl rfl (any_of HT_.out (by kernel_rfl)) (fun _ _ _ h => h) (Or.inl ⟨by rfl, ?_⟩) ?_ ?_
            rotate_left
            ·intro w'
             go_simp
             with_reducible rfl
            rotate_left
            ·simp only [Act.put, List.setIfInBounds_toArray, List.set_cons_zero, List.set_cons_succ, i64_w, i32_w]
             rfl
            refine pure_ (i := 6) (N := some 32) (v := ?_) (a' := ?_) #[true, true, true, true, true, true, true, true, false, false] rfl rfl (any_of HT_.out (by kernel_rfl)) (fun _ _ _ h => h) (Or.inl ⟨by rfl, ?_⟩) ?_ ?_
            rotate_left
            ·intro w'
             go_simp
             with_reducible rfl
            rotate_left
            ·simp only [Act.put, List.setIfInBounds_toArray, List.set_cons_zero, List.set_cons_succ, i64_w, i32_w]
             rfl
            exact nrm_ (hCont (.slice Ao58 t200.length co58, v204, gb210) _ ⟨hHeld, (kr_ HO195), (kr_ HO202), (kr_ HO205), (bk_ BK151), (bk_ BK159), (bk_ BK167), (bk_ BK196), (bk_ BK210), GW210.out, GE210.out, NB151_210.out, NB210_151.out, NB159_210.out, NB210_159.out, NB167_210.out, NB210_167.out, NB196_210.out, NB210_196.out, (hb_ HB)⟩)
          rintro ⟨v201, v204, gb210⟩ w60 ⟨hS_, h0_, h1_, h2_, h3_, h4_, h5_, h6_, h7_, h8_, h9_, h10_, h11_, h12_, h13_, h14_, h15_, h16_, h17_, h18_⟩
          (try dsimp only at h0_ h1_ h2_ h3_ h4_ h5_ h6_ h7_ h8_ h9_ h10_ h11_ h12_ h13_ h14_ h15_ h16_ h17_ h18_)
          clear HO195
          clear BK151
          clear BK159
          clear BK167
          clear BK196
          clear HB
          have HO195 := Aside0.mk h0_
          have HO202 := Aside0.mk h1_
          have HO205 := Aside0.mk h2_
          have BK151 := Aside0.mk h3_
          have BK159 := Aside0.mk h4_
          have BK167 := Aside0.mk h5_
          have BK196 := Aside0.mk h6_
          have BK210 := Aside0.mk h7_
          have GW210 := Aside0.mk h8_
          have GE210 := Aside0.mk h9_
          have NB151_210 := Aside0.mk h10_
          have NB210_151 := Aside0.mk h11_
          have NB159_210 := Aside0.mk h12_
          have NB210_159 := Aside0.mk h13_
          have NB167_210 := Aside0.mk h14_
          have NB210_167 := Aside0.mk h15_
          have NB196_210 := Aside0.mk h16_
          have NB210_196 := Aside0.mk h17_
          have HB := Aside0.mk h18_
          clear h0_ h1_ h2_ h3_ h4_ h5_ h6_ h7_ h8_ h9_ h10_ h11_ h12_ h13_ h14_ h15_ h16_ h17_ h18_
          have hHeld : w60.cell? ⟨gb196, 0, none⟩ = some (.string t192) ∧ w60.cell? ⟨gb196, 1, none⟩ = some (.slice Ao52 t193.length co52) ∧ w60.cell? ⟨gb151, 0, none⟩ = some (.int .i64 0) ∧ w60.cell? ⟨gb151, 1, none⟩ = some (.slice none 0 0) ∧ w60.cell? ⟨gb151, 2, none⟩ = some (.slice none 0 0) := hS_
          obtain ⟨Ao61, co61, eo61⟩ := Kd.R_slice HO205.out
          (first | subst eo61 | (injection eo61 with f1_ f2_ f3_; have f4_ := f1_.symm; have f5_ := f3_.symm; clear f1_ f2_ f3_; subst f4_; subst f5_))
          refine norm_ (a' := ?_) ?_ ?_
          rotate_left
          ·simp only [putAll, Act.put, List.setIfInBounds_toArray, List.set_cons_zero, List.set_cons_succ]
           rfl
          refine one_ (i := 8) (N := none) #[true, true, true, true, true, true, true, true, true, false] rfl rfl (one_of HT_.out (by kernel_rfl)) (by decide) (fun K hK => ?_)
          have hs62 : w60.cell? ⟨gb210, 0, none⟩ = some (.slice none 0 0) := bc_ BK210 0
          have hfs62 := blk_frozen BK210.out 0
          have hns62_0 := NB151_210.out
          have hns62_1 := NB159_210.out
          have hns62_2 := NB167_210.out
          have hns62_3 := NB196_210.out
          have hms62_0 := NB210_151.out
          have hms62_1 := NB210_159.out
          have hms62_2 := NB210_167.out
          have hms62_3 := NB210_196.out
          have hs63 : w60.cell? ⟨gb210, 1, none⟩ = some (.int .i64 0) := bc_ BK210 1
          have hfs63 := blk_frozen BK210.out 1
          have hns63_0 := NB151_210.out
          have hns63_1 := NB159_210.out
          have hns63_2 := NB167_210.out
          have hns63_3 := NB196_210.out
          have hms63_0 := NB210_151.out
          have hms63_1 := NB210_159.out
          have hms63_2 := NB210_167.out
          have hms63_3 := NB210_196.out
          have hs64 : w60.cell? ⟨gb210, 2, none⟩ = some (.int .i64 0) := bc_ BK210 2
          have hfs64 := blk_frozen BK210.out 2
          have hns64_0 := NB151_210.out
          have hns64_1 := NB159_210.out
          have hns64_2 := NB167_210.out
          have hns64_3 := NB196_210.out
          have hms64_0 := NB210_151.out
          have hms64_1 := NB210_159.out
          have hms64_2 := NB210_167.out
          have hms64_3 := NB210_196.out
          have hs65 : w60.cell? ⟨gb210, 3, none⟩ = some (.int .i64 0) := bc_ BK210 3
          have hfs65 := blk_frozen BK210.out 3
          have hns65_0 := NB151_210.out
          have hns65_1 := NB159_210.out
          have hns65_2 := NB167_210.out
          have hns65_3 := NB196_210.out
          have hms65_0 := NB210_151.out
          have hms65_1 := NB210_159.out
          have hms65_2 := NB210_167.out
          have hms65_3 := NB210_196.out
          refine skip_ (w1 := ?_) (by rfl) rfl ?_ ?_
          rotate_left
          ·go_simp
           rfl
          refine hK.out _ _ ⟨((cell_far (p := ⟨gb210, _, none⟩) NB196_210.out _).trans (((cell_far (p := ⟨gb210, _, none⟩) NB196_210.out _).trans (((cell_far (p := ⟨gb210, _, none⟩) NB196_210.out _).trans (((cell_far (p := ⟨gb210, _, none⟩) NB196_210.out _).trans (hHeld.1)))))))), ((cell_far (p := ⟨gb210, _, none⟩) NB196_210.out _).trans (((cell_far (p := ⟨gb210, _, none⟩) NB196_210.out _).trans (((cell_far (p := ⟨gb210, _, none⟩) NB196_210.out _).trans (((cell_far (p := ⟨gb210, _, none⟩) NB196_210.out _).trans (hHeld.2.1)))))))), ((cell_far (p := ⟨gb210, _, none⟩) NB151_210.out _).trans (((cell_far (p := ⟨gb210, _, none⟩) NB151_210.out _).trans (((cell_far (p := ⟨gb210, _, none⟩) NB151_210.out _).trans (((cell_far (p := ⟨gb210, _, none⟩) NB151_210.out _).trans (hHeld.2.2.1)))))))), ((cell_far (p := ⟨gb210, _, none⟩) NB151_210.out _).trans (((cell_far (p := ⟨gb210, _, none⟩) NB151_210.out _).trans (((cell_far (p := ⟨gb210, _, none⟩) NB151_210.out _).trans (((cell_far (p := ⟨gb210, _, none⟩) NB151_210.out _).trans (hHeld.2.2.2.1)))))))), ((cell_far (p := ⟨gb210, _, none⟩) NB151_210.out _).trans (((cell_far (p := ⟨gb210, _, none⟩) NB151_210.out _).trans (((cell_far (p := ⟨gb210, _, none⟩) NB151_210.out _).trans (((cell_far (p := ⟨gb210, _, none⟩) NB151_210.out _).trans (hHeld.2.2.2.2))))))))⟩ (fun hHeld => ?_)
          clear hK K
          refine pure_ (i := 9) (N := some 6) (v := ?_) (a' := ?_) #[true, true, true, true, true, true, true, true, true, true] rfl rfl (any_of HT_.out (by kernel_rfl)) (fun _ _ _ h => h) (Or.inl ⟨by rfl, ?_⟩) ?_ ?_
          rotate_left
          ·intro w'
           go_simp
           with_reducible rfl
          rotate_left
          ·simp only [Act.put, List.setIfInBounds_toArray, List.set_cons_zero, List.set_cons_succ, i64_w, i32_w]
           rfl
          refine done_ (done_of HT_.out (by kernel_rfl)) ?_
          try go_wp2
          obtain ⟨w66, hww⟩ : ∃ w_, ((((w60.setCell ⟨gb210, 0, none⟩ (.slice Ao61 t203.length co61)).setCell ⟨gb210, 1, none⟩ (.int .i64 16802)).setCell ⟨gb210, 2, none⟩ (.int .i64 0)).setCell ⟨gb210, 3, none⟩ (.int .i64 16802)) = w_ := ⟨_, rfl⟩
          have n0_ : Aside0 (Kd.R k26 26 w66 w.heap.size (fun k_ => k_ ≠ gb159 ∧ k_ ≠ gb167) (.slice Ao52 t193.length co52) t193) := ⟨by rw [← hww]; (with_reducible repeat (first | apply Kd.R_alloc | apply Kd.R_drewN | apply Kd.R_drew)); exact Kd.R_mono (Kd.R_far (p := ⟨gb210, 3, none⟩) (Kd.R_far (p := ⟨gb210, 2, none⟩) (Kd.R_far (p := ⟨gb210, 1, none⟩) (Kd.R_far (p := ⟨gb210, 0, none⟩) (Kd.R_types HO195.out BK210.out (by decide)) (fun _ hk => hk.2) (.slice Ao61 t203.length co61)) (fun _ hk => hk.2) (.int .i64 16802)) (fun _ hk => hk.2) (.int .i64 0)) (fun _ hk => hk.2) (.int .i64 16802)) (fun _ hk => ⟨hk.1.1, hk.1.2⟩)⟩
          have n1_ : Aside0 (Kd.R k50 50 w66 w.heap.size (fun _ => True) v201 t200) := ⟨by rw [← hww]; (with_reducible repeat (first | apply Kd.R_alloc | apply Kd.R_drewN | apply Kd.R_drew)); exact Kd.R_mono (Kd.R_far (p := ⟨gb210, 3, none⟩) (Kd.R_far (p := ⟨gb210, 2, none⟩) (Kd.R_far (p := ⟨gb210, 1, none⟩) (Kd.R_far (p := ⟨gb210, 0, none⟩) (Kd.R_types HO202.out BK210.out (by decide)) (fun _ hk => hk.2) (.slice Ao61 t203.length co61)) (fun _ hk => hk.2) (.int .i64 16802)) (fun _ hk => hk.2) (.int .i64 0)) (fun _ hk => hk.2) (.int .i64 16802)) (fun _ hk => trivial)⟩
          have n2_ : Aside0 (Kd.R k48 48 w66 w.heap.size (fun _ => True) (.slice Ao61 t203.length co61) t203) := ⟨by rw [← hww]; (with_reducible repeat (first | apply Kd.R_alloc | apply Kd.R_drewN | apply Kd.R_drew)); exact Kd.R_mono (Kd.R_far (p := ⟨gb210, 3, none⟩) (Kd.R_far (p := ⟨gb210, 2, none⟩) (Kd.R_far (p := ⟨gb210, 1, none⟩) (Kd.R_far (p := ⟨gb210, 0, none⟩) (Kd.R_types HO205.out BK210.out (by decide)) (fun _ hk => hk.2) (.slice Ao61 t203.length co61)) (fun _ hk => hk.2) (.int .i64 16802)) (fun _ hk => hk.2) (.int .i64 0)) (fun _ hk => hk.2) (.int .i64 16802)) (fun _ hk => trivial)⟩
          have n3_ := bf_ BK151 hww
          have n4_ := bf_ BK159 hww
          have n5_ := bf_ BK167 hww
          have n6_ := bf_ BK196 hww
          have n7_ : Aside0 (w66.heap[gb210]? = some (.cells #[.slice Ao61 t203.length co61, .int .i64 16802, .int .i64 0, .int .i64 16802] 38 (0, 0))) := ⟨by rw [← hww]; (with_reducible repeat (first | refine blk_drewN ?_ _ | refine blk_drew ?_ | refine blk_alloc ?_ _)); refine blk_put (cs := #[.slice Ao61 t203.length co61, .int .i64 16802, .int .i64 0, .int .i64 0]) ?_ 3 _ rfl; (with_reducible repeat (first | refine blk_drewN ?_ _ | refine blk_drew ?_ | refine blk_alloc ?_ _)); refine blk_put (cs := #[.slice Ao61 t203.length co61, .int .i64 16802, .int .i64 0, .int .i64 0]) ?_ 2 _ rfl; (with_reducible repeat (first | refine blk_drewN ?_ _ | refine blk_drew ?_ | refine blk_alloc ?_ _)); refine blk_put (cs := #[.slice Ao61 t203.length co61, .int .i64 0, .int .i64 0, .int .i64 0]) ?_ 1 _ rfl; (with_reducible repeat (first | refine blk_drewN ?_ _ | refine blk_drew ?_ | refine blk_alloc ?_ _)); refine blk_put (cs := #[.slice none 0 0, .int .i64 0, .int .i64 0, .int .i64 0]) ?_ 0 _ rfl; (with_reducible repeat (first | refine blk_drewN ?_ _ | refine blk_drew ?_ | refine blk_alloc ?_ _)); exact BK210.out⟩
          have n8_ := bw_ HB hww
          (try clear HO195)
          (try clear HO202)
          (try clear HO205)
          (try clear BK151)
          (try clear BK159)
          (try clear BK167)
          (try clear BK196)
          (try clear BK210)
          (try clear HB)
          rw [hww]
          clear hww
          have HO195 := n0_
          have HO202 := n1_
          have HO205 := n2_
          have BK151 := n3_
          have BK159 := n4_
          have BK167 := n5_
          have BK196 := n6_
          have BK210 := n7_
          have HB := n8_
          clear n0_ n1_ n2_ n3_ n4_ n5_ n6_ n7_ n8_
          have n0_ := Aside0.mk (Kd.R_drew HO195.out)
          have n1_ := Aside0.mk (Kd.R_drew HO202.out)
          have n2_ := Aside0.mk (Kd.R_drew HO205.out)
          have n3_ := Aside0.mk (blk_drew BK151.out)
          have n4_ := Aside0.mk (blk_drew BK159.out)
          have n5_ := Aside0.mk (blk_drew BK167.out)
          have n6_ := Aside0.mk (blk_drew BK196.out)
          have n7_ := Aside0.mk (blk_drew BK210.out)
          have n8_ := Aside0.mk (below_drew1 HB.out)
          clear HO195
          clear HO202
          clear HO205
          clear BK151
          clear BK159
          clear BK167
          clear BK196
          clear BK210
          clear HB
          have HO195 := n0_
          have HO202 := n1_
          have HO205 := n2_
          have BK151 := n3_
          have BK159 := n4_
          have BK167 := n5_
          have BK196 := n6_
          have BK210 := n7_
          have HB := n8_
          clear n0_ n1_ n2_ n3_ n4_ n5_ n6_ n7_ n8_
          refine start_ (n := 8) (S := fun w' => w'.cell? ⟨gb196, 0, none⟩ = some (.string t192) ∧ w'.cell? ⟨gb196, 1, none⟩ = some (.slice Ao52 t193.length co52)) (ds := [7]) #[false, false, false, false, false, false, false, false] (by kernel_rfl) rfl rfl ⟨bc_ BK196 0, bc_ BK196 1⟩ (fun hHeld => ?_); refine with_tabW chargeparklaw33_head.tab8 chargeparklaw33_head.bits8 (fun HT_ HW_ => ?_)
          generalize w66.drew = w67 at HO195 HO202 HO205 BK151 BK159 BK167 BK196 BK210 HB hHeld ⊢
          refine pure_ (i := 0) (N := some 33) (v := ?_) (a' := ?_) #[true, false, false, false, false, false, false, false] rfl rfl (any_of HT_.out (by kernel_rfl)) (fun _ _ _ h => h) (Or.inl ⟨by rfl, ?_⟩) ?_ ?_
          rotate_left
          ·intro w'
           go_simp
           with_reducible rfl
          rotate_left
          ·simp only [Act.put, List.setIfInBounds_toArray, List.set_cons_zero, List.set_cons_succ, i64_w, i32_w]
           rfl
          refine take_ (i := 1) (N := some 34) (v := ?_) (a' := ?_) #[true, true, false, false, false, false, false, false] rfl rfl (take_ofW HT_.out HW_.out (by kernel_rfl)) (fun _ _ _ h => h) (Or.inl ⟨by rfl, ?_⟩) hHeld ?_ ?_
          rotate_left
          ·rintro w' ⟨s0, s1⟩
           go_simp
           with_reducible rfl
          rotate_left
          ·simp only [Act.put, List.setIfInBounds_toArray, List.set_cons_zero, List.set_cons_succ, i64_w, i32_w]
           rfl
          refine one_ (i := 2) (N := some 35) #[true, true, true, false, false, false, false, false] rfl rfl (one_of HT_.out (by kernel_rfl)) (by decide) (fun K hK => ?_)
          refine goes_ Try.func35 (by kernel_rfl) rfl #[.int .i64 5, .int .i64 1000, .int .i64 0, .int .i64 0] (by rfl) rfl rfl mp_ ?_
          with_reducible refine (chargeparklaw33_article.calls 5 1000 0 0 5 7 0 1440 1000 0 0 _ A9.out).mono ?_
          rintro e w68 ⟨rfl, hb⟩
          refine ⟨_, rfl, ?_⟩
          have n0_ := Aside0.mk (Kd.R_below (kr_ HO195) hb)
          have n1_ := Aside0.mk (Kd.R_below (kr_ HO202) hb)
          have n2_ := Aside0.mk (Kd.R_below (kr_ HO205) hb)
          have n3_ := (bb_ BK151 hb)
          have n4_ := (bb_ BK159 hb)
          have n5_ := (bb_ BK167 hb)
          have n6_ := (bb_ BK196 hb)
          have n7_ := (bb_ BK210 hb)
          have n8_ := Aside0.mk (below_step (hb_ HB) hb)
          clear HO195
          clear HO202
          clear HO205
          clear BK151
          clear BK159
          clear BK167
          clear BK196
          clear BK210
          clear HB
          have HO195 := n0_
          have HO202 := n1_
          have HO205 := n2_
          have BK151 := n3_
          have BK159 := n4_
          have BK167 := n5_
          have BK196 := n6_
          have BK210 := n7_
          have HB := n8_
          clear n0_ n1_ n2_ n3_ n4_ n5_ n6_ n7_ n8_
          (try clear hb)
          (try clear hb2)
          (try clear hk)
          (try clear hi)
          refine hK.out _ _ ⟨bc_ BK196 0, bc_ BK196 1⟩ (fun hHeld => ?_)
          clear hK K
          refine norm_ (a' := ?_) ?_ ?_
          rotate_left
          ·show Act.put _ (some 35) _ = _
           simp only [Act.put, List.setIfInBounds_toArray, List.set_cons_zero, List.set_cons_succ, i64_w, i32_w]
           rfl
          refine one_ (i := 3) (N := some 36) #[true, true, true, true, false, false, false, false] rfl rfl (one_of HT_.out (by kernel_rfl)) (by decide) (fun K hK => ?_)
          refine goes_ Try.func35 (by kernel_rfl) rfl #[.int .i64 6, .int .i64 1905, .int .i64 0, .int .i64 0] (by rfl) rfl rfl mp_ ?_
          with_reducible refine (chargeparklaw33_article.calls 6 1905 0 0 6 7 0 1440 1905 0 0 _ A10.out).mono ?_
          rintro e w69 ⟨rfl, hb⟩
          refine ⟨_, rfl, ?_⟩
          have n0_ := Aside0.mk (Kd.R_below (kr_ HO195) hb)
          have n1_ := Aside0.mk (Kd.R_below (kr_ HO202) hb)
          have n2_ := Aside0.mk (Kd.R_below (kr_ HO205) hb)
          have n3_ := (bb_ BK151 hb)
          have n4_ := (bb_ BK159 hb)
          have n5_ := (bb_ BK167 hb)
          have n6_ := (bb_ BK196 hb)
          have n7_ := (bb_ BK210 hb)
          have n8_ := Aside0.mk (below_step (hb_ HB) hb)
          clear HO195
          clear HO202
          clear HO205
          clear BK151
          clear BK159
          clear BK167
          clear BK196
          clear BK210
          clear HB
          have HO195 := n0_
          have HO202 := n1_
          have HO205 := n2_
          have BK151 := n3_
          have BK159 := n4_
          have BK167 := n5_
          have BK196 := n6_
          have BK210 := n7_
          have HB := n8_
          clear n0_ n1_ n2_ n3_ n4_ n5_ n6_ n7_ n8_
          (try clear hb)
          (try clear hb2)
          (try clear hk)
          (try clear hi)
          refine hK.out _ _ ⟨bc_ BK196 0, bc_ BK196 1⟩ (fun hHeld => ?_)
          clear hK K
          refine norm_ (a' := ?_) ?_ ?_
          rotate_left
          ·show Act.put _ (some 36) _ = _
           simp only [Act.put, List.setIfInBounds_toArray, List.set_cons_zero, List.set_cons_succ, i64_w, i32_w]
           rfl
          refine one_ (i := 4) (N := some 37) #[true, true, true, true, true, false, false, false] rfl rfl (one_of HT_.out (by kernel_rfl)) (by decide) (fun K hK => ?_)
          refine Kd.R_lit_step k26 _ 26 ?hg (N := 37) ?hd (xs := ([(⟨5, 7, 0, 1440, 1000, 0, 0⟩ : S26), (⟨6, 7, 0, 1440, 1905, 0, 0⟩ : S26)] : List (S26))) (inner := [.int .i64 5, .int .i64 7, .int .i64 0, .int .i64 1440, .int .i64 1000, .int .i64 0, .int .i64 0, .int .i64 6, .int .i64 7, .int .i64 0, .int .i64 1440, .int .i64 1905, .int .i64 0, .int .i64 0]) (ok := fun _ => True) (okp := fun _ => True) ?hr ?hp (fun _ hk => hk) trivial (Below.refl _ _) (Nat.le_refl _) (by simp) ?_; (case hd => rfl); (case hg => rfl); (case hr => first | (go_simp; done) | (go_simp; rfl)); (case hp => exact (Reps.c7 (show Kd.M k26 _ _ _ (⟨5, 7, 0, 1440, 1000, 0, 0⟩ : S26) [.int .i64 5, .int .i64 7, .int .i64 0, .int .i64 1440, .int .i64 1000, .int .i64 0, .int .i64 0] from (k26_mkM _ _ _ (⟨5, 7, 0, 1440, 1000, 0, 0⟩ : S26) )) (Reps.c7 (show Kd.M k26 _ _ _ (⟨6, 7, 0, 1440, 1905, 0, 0⟩ : S26) [.int .i64 6, .int .i64 7, .int .i64 0, .int .i64 1440, .int .i64 1905, .int .i64 0, .int .i64 0] from (k26_mkM _ _ _ (⟨6, 7, 0, 1440, 1905, 0, 0⟩ : S26) )) (Reps.none _ _))))
          intro v226 w70 ho71 hb hg_ hnew_
          clear hg_ hnew_
          (first | rw [← Ny225.out] at ho71 | (simp only [Int.reduceToNat] at ho71; rw [← Ny225.out] at ho71))
          have n0_ := Aside0.mk (Kd.R_elder' (kr_ HO195) (Kd.R_base ho71) hb)
          have n1_ := Aside0.mk (Kd.R_below (kr_ HO202) hb)
          have n2_ := Aside0.mk (Kd.R_below (kr_ HO205) hb)
          have n3_ := Aside0.mk (Kd.R_lower (Kd.R_newB (Kd.R_newB (Kd.R_new' ho71 (Kd.R_lt (kr_ HO195))) (g := gb159) (o := .cells #[.int .i64 4, .int .i64 7, .int .i64 0, .int .i64 650, .int .i64 7, .int .i64 15, .int .i64 0] 26 (0, 0)) (bk_ BK159)) (g := gb167) (o := .cells #[.int .i64 2, .int .i64 2, .int .i64 0, .int .i64 1440, .int .i64 40, .int .i64 0, .int .i64 0] 26 (0, 0)) (bk_ BK167)) (below_size (hb_ HB)))
          have n4_ := (bb_ BK151 hb)
          have n5_ := (bb_ BK159 hb)
          have n6_ := (bb_ BK167 hb)
          have n7_ := (bb_ BK196 hb)
          have n8_ := (bb_ BK210 hb)
          have n9_ := Aside0.mk (below_step (hb_ HB) hb)
          clear HO195
          clear HO202
          clear HO205
          clear BK151
          clear BK159
          clear BK167
          clear BK196
          clear BK210
          clear HB
          have HO195 := n0_
          have HO202 := n1_
          have HO205 := n2_
          have HO227 := n3_
          have BK151 := n4_
          have BK159 := n5_
          have BK167 := n6_
          have BK196 := n7_
          have BK210 := n8_
          have HB := n9_
          clear n0_ n1_ n2_ n3_ n4_ n5_ n6_ n7_ n8_ n9_
          clear hb ho71
          obtain ⟨Ao73, co73, eo73⟩ := Kd.R_slice HO227.out
          (first | subst eo73 | (injection eo73 with f1_ f2_ f3_; have f4_ := f1_.symm; have f5_ := f3_.symm; clear f1_ f2_ f3_; subst f4_; subst f5_))
          refine hK.out _ _ ⟨bc_ BK196 0, bc_ BK196 1⟩ (fun hHeld => ?_)
          clear hK K
          refine norm_ (a' := ?_) ?_ ?_
          rotate_left
          ·show Act.put _ (some 37) _ = _
           simp only [Act.put, List.setIfInBounds_toArray, List.set_cons_zero, List.set_cons_succ, i64_w, i32_w]
           rfl
          refine one_ (i := 5) (N := some 38) #[true, true, true, true, true, true, false, false] rfl rfl (one_of HT_.out (by kernel_rfl)) (by decide) (fun K hK => ?_)
          refine Kd.R_append_rows_step k26 (w0 := w) w.heap.size (by rfl) (.tmp 34) (.tmp 37) 22 26 (.agg #[(.int .i64 0), (.int .i64 0), (.int .i64 0), (.int .i64 0), (.int .i64 0), (.int .i64 0), (.int .i64 0)]) 56 rfl Try.underlying22 info26 rfl (by decide) (by omega) (.slice Ao52 t193.length co52) t193 y225 _ _ _ (fun k_ => some k_ ≠ (.slice Ao73 y225.length co73 : Value).ownBlock ∧ k_ ≠ gb159 ∧ k_ ≠ gb167) (fun _ => False) rfl rfl ?aO ?aR (fun _ _ h => h) (fun _ h => h.elim) ?aF ?aB ?aS ?aL ?_
          (case aR => repeat (first | exact (Kd.R_reads' HO227.out).2.2 | (with_reducible refine Kd.C_alloc ?_ _) | (with_reducible refine Kd.C_drewN ?_ _) | (with_reducible refine Kd.C_drew ?_)))
          (case aB => exact (hb_ HB))
          (case aF => exact (fun k_ hk => ⟨Kd.fresh' (Kd.R_lt (kr_ HO227)) k_ hk, Kd.freshB (g := gb159) (o := .cells #[.int .i64 4, .int .i64 7, .int .i64 0, .int .i64 650, .int .i64 7, .int .i64 15, .int .i64 0] 26 (0, 0)) (bk_ BK159) k_ hk, Kd.freshB (g := gb167) (o := .cells #[.int .i64 2, .int .i64 2, .int .i64 0, .int .i64 1440, .int .i64 40, .int .i64 0, .int .i64 0] 26 (0, 0)) (bk_ BK167) k_ hk⟩))
          (case aO => exact (by (with_reducible repeat (first | apply Kd.R_alloc | apply Kd.R_drewN | apply Kd.R_drew)); exact Kd.R_mono HO195.out (fun _ hk => ⟨hk.2, ⟨hk.1.1, hk.1.2⟩⟩)))
          (case aS => exact (below_size (hb_ HB)))
          (case aL => have := LMc11.out; omega)
          intro v229 w72 ho hb hg hat
          rw [← Ny228.out] at ho
          have n0_ := Aside0.mk (blk_grown (g := gb151) (o := .cells #[.int .i64 0, .slice none 0 0, .slice none 0 0] 30 (0, 0)) (bk_ BK151) hg (Kd.R_ne HO195.out BK151.out (by decide)))
          have n1_ := Aside0.mk (blk_grown (g := gb159) (o := .cells #[.int .i64 4, .int .i64 7, .int .i64 0, .int .i64 650, .int .i64 7, .int .i64 15, .int .i64 0] 26 (0, 0)) (bk_ BK159) hg (Kd.R_away HO195.out (fun _ hk => hk.1.1)))
          have n2_ := Aside0.mk (blk_grown (g := gb167) (o := .cells #[.int .i64 2, .int .i64 2, .int .i64 0, .int .i64 1440, .int .i64 40, .int .i64 0, .int .i64 0] 26 (0, 0)) (bk_ BK167) hg (Kd.R_away HO195.out (fun _ hk => hk.1.2)))
          have n3_ := Aside0.mk (blk_grown (g := gb196) (o := .cells #[.string t192, .slice Ao52 t193.length co52] 24 (0, 0)) (bk_ BK196) hg (Kd.R_ne HO195.out BK196.out (by decide)))
          have n4_ := Aside0.mk (Kd.R_over' (kr_ HO202) (Kd.R_typed (kr_ HO195)) (by decide) hg)
          have n5_ := Aside0.mk (Kd.R_over' (kr_ HO205) (Kd.R_typed (kr_ HO195)) (by decide) hg)
          have n6_ := Aside0.mk (blk_grown (g := gb210) (o := .cells #[.slice Ao61 t203.length co61, .int .i64 16802, .int .i64 0, .int .i64 16802] 38 (0, 0)) (bk_ BK210) hg (Kd.R_ne HO195.out BK210.out (by decide)))
          have n7_ := Aside0.mk (Kd.R_after (ok := (fun k_ => k_ ≠ gb159 ∧ k_ ≠ gb167)) (by (with_reducible repeat (first | apply Kd.R_alloc | apply Kd.R_drewN | apply Kd.R_drew)); exact Kd.R_mono HO227.out (fun _ hk => ⟨⟨hk.1.2, hk.2⟩, hk.1.1.2⟩)) hg hat)
          have n8_ := Aside0.mk (hb)
          have n9_ := Aside0.mk (ho)
          clear BK151
          clear BK159
          clear BK167
          clear BK196
          clear HO202
          clear HO205
          clear BK210
          clear HO227
          clear HB
          clear HO195
          have BK151 := n0_
          have BK159 := n1_
          have BK167 := n2_
          have BK196 := n3_
          have HO202 := n4_
          have HO205 := n5_
          have BK210 := n6_
          have HO227 := n7_
          have HB := n8_
          have HO230 := n9_
          clear n0_ n1_ n2_ n3_ n4_ n5_ n6_ n7_ n8_ n9_
          clear ho hb hg hat
          obtain ⟨Ao74, co74, eo74⟩ := Kd.R_slice HO230.out
          (first | subst eo74 | (injection eo74 with f1_ f2_ f3_; have f4_ := f1_.symm; have f5_ := f3_.symm; clear f1_ f2_ f3_; subst f4_; subst f5_))
          refine hK.out _ _ ⟨bc_ BK196 0, bc_ BK196 1⟩ (fun hHeld => ?_)
          clear hK K
          refine norm_ (a' := ?_) ?_ ?_
          rotate_left
          ·show Act.put _ (some 38) _ = _
           simp only [Act.put, List.setIfInBounds_toArray, List.set_cons_zero, List.set_cons_succ, i64_w, i32_w]
           rfl
          refine pure_ (i := 6) (N := some 39) (v := ?_) (a' := ?_) #[true, true, true, true, true, true, true, false] rfl rfl (any_of HT_.out (by kernel_rfl)) (fun _ _ _ h => h) (Or.inl ⟨by rfl, ?_⟩) ?_ ?_
          rotate_left
          ·intro w'
           go_simp
           with_reducible rfl
          rotate_left
          ·simp only [Act.put, List.setIfInBounds_toArray, List.set_cons_zero, List.set_cons_succ, i64_w, i32_w]
           rfl
          refine last_ (i := 7) (N := none) #[true, true, true, true, true, true, true, true] rfl rfl (one_of HT_.out (by kernel_rfl)) (by decide) (fun K hK => ?_)
          have hs75 : w72.cell? ⟨gb196, 1, none⟩ = some (.slice Ao52 t193.length co52) := bc_ BK196 1
          have hfs75 := blk_frozen BK196.out 1
          have hns75_0 := NB151_196.out
          have hns75_1 := NB159_196.out
          have hns75_2 := NB167_196.out
          have hns75_4 := NB210_196.out
          have hms75_0 := NB196_151.out
          have hms75_1 := NB196_159.out
          have hms75_2 := NB196_167.out
          have hms75_4 := NB196_210.out
          refine skip_ (w1 := ?_) (by rfl) rfl ?_ ?_
          rotate_left
          ·go_simp
           rfl
          refine hK.out _ _ ?_
          clear hK K
          refine done_ (done_of HT_.out (by kernel_rfl)) ?_
          try go_wp2
          obtain ⟨w76, hww⟩ : ∃ w_, (w72.setCell ⟨gb196, 1, none⟩ (.slice Ao74 y228.length co74)) = w_ := ⟨_, rfl⟩
          have n0_ : Aside0 (Kd.R k50 50 w76 w.heap.size (fun _ => True) v201 t200) := ⟨by rw [← hww]; (with_reducible repeat (first | apply Kd.R_alloc | apply Kd.R_drewN | apply Kd.R_drew)); exact Kd.R_mono (Kd.R_far (p := ⟨gb196, 1, none⟩) (Kd.R_types HO202.out BK196.out (by decide)) (fun _ hk => hk.2) (.slice Ao74 y228.length co74)) (fun _ hk => trivial)⟩
          have n1_ : Aside0 (Kd.R k48 48 w76 w.heap.size (fun _ => True) (.slice Ao61 t203.length co61) t203) := ⟨by rw [← hww]; (with_reducible repeat (first | apply Kd.R_alloc | apply Kd.R_drewN | apply Kd.R_drew)); exact Kd.R_mono (Kd.R_far (p := ⟨gb196, 1, none⟩) (Kd.R_types HO205.out BK196.out (by decide)) (fun _ hk => hk.2) (.slice Ao74 y228.length co74)) (fun _ hk => trivial)⟩
          have n2_ : Aside0 (Kd.R k26 26 w76 w.heap.size (fun k_ => some k_ ≠ (.slice Ao74 y228.length co74 : Value).ownBlock ∧ k_ ≠ gb159 ∧ k_ ≠ gb167) (.slice Ao73 y225.length co73) y225) := ⟨by rw [← hww]; (with_reducible repeat (first | apply Kd.R_alloc | apply Kd.R_drewN | apply Kd.R_drew)); exact Kd.R_mono (Kd.R_far (p := ⟨gb196, 1, none⟩) (Kd.R_types HO227.out BK196.out (by decide)) (fun _ hk => hk.2) (.slice Ao74 y228.length co74)) (fun _ hk => ⟨hk.1.2, ⟨hk.1.1.1, hk.1.1.2⟩⟩)⟩
          have n3_ : Aside0 (Kd.R k26 26 w76 w.heap.size (fun k_ => some k_ ≠ (.slice Ao73 y225.length co73 : Value).ownBlock ∧ k_ ≠ gb159 ∧ k_ ≠ gb167) (.slice Ao74 y228.length co74) y228) := ⟨by rw [← hww]; (with_reducible repeat (first | apply Kd.R_alloc | apply Kd.R_drewN | apply Kd.R_drew)); exact Kd.R_mono (Kd.R_far (p := ⟨gb196, 1, none⟩) (Kd.R_types HO230.out BK196.out (by decide)) (fun _ hk => hk.2) (.slice Ao74 y228.length co74)) (fun _ hk => ⟨hk.1.1, ⟨hk.1.2.1, hk.1.2.2⟩⟩)⟩
          have n4_ := bf_ BK151 hww
          have n5_ := bf_ BK159 hww
          have n6_ := bf_ BK167 hww
          have n7_ : Aside0 (w76.heap[gb196]? = some (.cells #[.string t192, .slice Ao74 y228.length co74] 24 (0, 0))) := ⟨by rw [← hww]; (with_reducible repeat (first | refine blk_drewN ?_ _ | refine blk_drew ?_ | refine blk_alloc ?_ _)); refine blk_put (cs := #[.string t192, .slice Ao52 t193.length co52]) ?_ 1 _ rfl; (with_reducible repeat (first | refine blk_drewN ?_ _ | refine blk_drew ?_ | refine blk_alloc ?_ _)); exact BK196.out⟩
          have n8_ := bf_ BK210 hww
          have n9_ := bw_ HB hww
          (try clear HO202)
          (try clear HO205)
          (try clear HO227)
          (try clear HO230)
          (try clear BK151)
          (try clear BK159)
          (try clear BK167)
          (try clear BK196)
          (try clear BK210)
          (try clear HB)
          rw [hww]
          clear hww
          have HO202 := n0_
          have HO205 := n1_
          have HO227 := n2_
          have HO230 := n3_
          have BK151 := n4_
          have BK159 := n5_
          have BK167 := n6_
          have BK196 := n7_
          have BK210 := n8_
          have HB := n9_
          clear n0_ n1_ n2_ n3_ n4_ n5_ n6_ n7_ n8_ n9_
          have n0_ := Aside0.mk (Kd.R_drew HO202.out)
          have n1_ := Aside0.mk (Kd.R_drew HO205.out)
          have n2_ := Aside0.mk (Kd.R_drew HO227.out)
          have n3_ := Aside0.mk (Kd.R_drew HO230.out)
          have n4_ := Aside0.mk (blk_drew BK151.out)
          have n5_ := Aside0.mk (blk_drew BK159.out)
          have n6_ := Aside0.mk (blk_drew BK167.out)
          have n7_ := Aside0.mk (blk_drew BK196.out)
          have n8_ := Aside0.mk (blk_drew BK210.out)
          have n9_ := Aside0.mk (below_drew1 HB.out)
          clear HO202
          clear HO205
          clear HO227
          clear HO230
          clear BK151
          clear BK159
          clear BK167
          clear BK196
          clear BK210
          clear HB
          have HO202 := n0_
          have HO205 := n1_
          have HO227 := n2_
          have HO230 := n3_
          have BK151 := n4_
          have BK159 := n5_
          have BK167 := n6_
          have BK196 := n7_
          have BK210 := n8_
          have HB := n9_
          clear n0_ n1_ n2_ n3_ n4_ n5_ n6_ n7_ n8_ n9_
          refine start_ (n := 10) (S := fun w' => w'.cell? ⟨gb196, 0, none⟩ = some (.string t192) ∧ w'.cell? ⟨gb196, 1, none⟩ = some (.slice Ao74 y228.length co74) ∧ w'.cell? ⟨gb151, 0, none⟩ = some (.int .i64 0) ∧ w'.cell? ⟨gb151, 1, none⟩ = some (.slice none 0 0) ∧ w'.cell? ⟨gb151, 2, none⟩ = some (.slice none 0 0)) (ds := []) #[false, false, false, false, false, false, false, false, false, false] (by kernel_rfl) rfl rfl ⟨bc_ BK196 0, bc_ BK196 1, bc_ BK151 0, bc_ BK151 1, bc_ BK151 2⟩ (fun hHeld => ?_); refine with_tabW chargeparklaw33_head.tab9 chargeparklaw33_head.bits9 (fun HT_ HW_ => ?_)
          generalize w76.drew = w77 at HO202 HO205 HO227 HO230 BK151 BK159 BK167 BK196 BK210 HB hHeld ⊢
          refine take_ (i := 0) (N := some 41) (v := ?_) (a' := ?_) #[true, false, false, false, false, false, false, false, false, false] rfl rfl (take_ofW HT_.out HW_.out (by kernel_rfl)) (fun _ _ _ h => h) (Or.inl ⟨by rfl, ?_⟩) hHeld ?_ ?_
          rotate_left
          ·rintro w' ⟨s0, s1, s2, s3, s4⟩
           go_simp
           with_reducible rfl
          rotate_left
          ·simp only [Act.put, List.setIfInBounds_toArray, List.set_cons_zero, List.set_cons_succ, i64_w, i32_w]
           rfl
          refine take_ (i := 1) (N := some 42) (v := ?_) (a' := ?_) #[true, true, false, false, false, false, false, false, false, false] rfl rfl (take_ofW HT_.out HW_.out (by kernel_rfl)) (fun _ _ _ h => h) (Or.inl ⟨by rfl, ?_⟩) hHeld ?_ ?_
          rotate_left
          ·rintro w' ⟨s0, s1, s2, s3, s4⟩
           go_simp
           with_reducible rfl
          rotate_left
          ·simp only [Act.put, List.setIfInBounds_toArray, List.set_cons_zero, List.set_cons_succ, i64_w, i32_w]
           rfl
          refine join_ (σ := Value × Value × Nat) 2 #[true, true, true, true, true, true, true, true, false, false] (fun s_ => [(43, .agg #[.int .i64 600, .int .i64 660, .int .i64 640, s_.1]), (44, .tuple #[.agg #[s_.2.1, .int .i64 1000, .int .i64 191, .int .i64 1191], .int .i64 0]), (7, .pointer (some ⟨s_.2.2, 0, none⟩)), (40, .tuple #[.agg #[s_.2.1, .int .i64 1000, .int .i64 191, .int .i64 1191], .int .i64 0]), (45, .agg #[s_.2.1, .int .i64 1000, .int .i64 191, .int .i64 1191]), (46, .int .i64 0)]) (fun s_ w' => (w'.cell? ⟨gb196, 0, none⟩ = some (.string t192) ∧ w'.cell? ⟨gb196, 1, none⟩ = some (.slice Ao74 y228.length co74) ∧ w'.cell? ⟨gb151, 0, none⟩ = some (.int .i64 0) ∧ w'.cell? ⟨gb151, 1, none⟩ = some (.slice none 0 0) ∧ w'.cell? ⟨gb151, 2, none⟩ = some (.slice none 0 0)) ∧ (Kd.R k50 50 w' w.heap.size (fun k_ => some k_ ≠ (s_.1 : Value).ownBlock) v201 t200) ∧ (Kd.R k48 48 w' w.heap.size (fun k_ => some k_ ≠ (s_.2.1 : Value).ownBlock) (.slice Ao61 t203.length co61) t203) ∧ (Kd.R k26 26 w' w.heap.size (fun k_ => some k_ ≠ (.slice Ao74 y228.length co74 : Value).ownBlock ∧ k_ ≠ gb159 ∧ k_ ≠ gb167) (.slice Ao73 y225.length co73) y225) ∧ (Kd.R k26 26 w' w.heap.size (fun k_ => some k_ ≠ (.slice Ao73 y225.length co73 : Value).ownBlock ∧ k_ ≠ gb159 ∧ k_ ≠ gb167) (.slice Ao74 y228.length co74) y228) ∧ (Kd.R k50 50 w' w.heap.size (fun k_ => some k_ ≠ (v201 : Value).ownBlock) s_.1 t234) ∧ (Kd.R k48 48 w' w.heap.size (fun k_ => some k_ ≠ (.slice Ao61 t203.length co61 : Value).ownBlock) s_.2.1 t237) ∧ (w'.heap[gb151]? = some (.cells #[.int .i64 0, .slice none 0 0, .slice none 0 0] 30 (0, 0))) ∧ (w'.heap[gb159]? = some (.cells #[.int .i64 4, .int .i64 7, .int .i64 0, .int .i64 650, .int .i64 7, .int .i64 15, .int .i64 0] 26 (0, 0))) ∧ (w'.heap[gb167]? = some (.cells #[.int .i64 2, .int .i64 2, .int .i64 0, .int .i64 1440, .int .i64 40, .int .i64 0, .int .i64 0] 26 (0, 0))) ∧ (w'.heap[gb196]? = some (.cells #[.string t192, .slice Ao74 y228.length co74] 24 (0, 0))) ∧ (w'.heap[gb210]? = some (.cells #[.slice Ao61 t203.length co61, .int .i64 16802, .int .i64 0, .int .i64 16802] 38 (0, 0))) ∧ (w'.heap[s_.2.2]? = some (.cells #[.slice none 0 0, .int .i64 0, .int .i64 0, .int .i64 0] 38 (0, 0))) ∧ (w.heap.size ≤ s_.2.2) ∧ (w.heap.size ≤ s_.2.2) ∧ (gb151 ≠ s_.2.2) ∧ (s_.2.2 ≠ gb151) ∧ (gb159 ≠ s_.2.2) ∧ (s_.2.2 ≠ gb159) ∧ (gb167 ≠ s_.2.2) ∧ (s_.2.2 ≠ gb167) ∧ (gb196 ≠ s_.2.2) ∧ (s_.2.2 ≠ gb196) ∧ (gb210 ≠ s_.2.2) ∧ (s_.2.2 ≠ gb210) ∧ (Below w.heap.size w w')) ?_ ?_
          rotate_left
          ·intro hCont
           refine two_ (i := 2) (j := 7) (Ni := some 43) (Nj := some 7) #[true, true, true, false, false, false, false, false, false, false] #[true, true, false, false, false, false, false, true, false, false] rfl rfl rfl rfl (two_of HT_.out (by kernel_rfl)) (by decide) (by decide) (fun K hK => ?_) (fun K hK => ?_)
           ·skip
            refine goes_ Try.func55 (by kernel_rfl) rfl #[] (by rfl) rfl rfl mp_ ?_
            with_reducible refine (chargeparklaw33_example.calls  600 660 640 t234 _ A12.out).mono ?_
            rintro e w78 ⟨v235, rfl, ho0, hb⟩
            refine ⟨_, rfl, ?_⟩
            have n0_ := Aside0.mk (Kd.R_elder' (kr_ HO202) (Kd.R_base ho0) hb)
            have n1_ := Aside0.mk (Kd.R_below (kr_ HO205) hb)
            have n2_ := Aside0.mk (Kd.R_below (kr_ HO227) hb)
            have n3_ := Aside0.mk (Kd.R_below (kr_ HO230) hb)
            have n4_ := Aside0.mk (Kd.R_lower (Kd.R_new' ho0 (Kd.R_lt (kr_ HO202))) (below_size (hb_ HB)))
            have n5_ := (bb_ BK151 hb)
            have n6_ := (bb_ BK159 hb)
            have n7_ := (bb_ BK167 hb)
            have n8_ := (bb_ BK196 hb)
            have n9_ := (bb_ BK210 hb)
            have n10_ := Aside0.mk (below_step (hb_ HB) hb)
            clear HO202
            clear HO205
            clear HO227
            clear HO230
            clear BK151
            clear BK159
            clear BK167
            clear BK196
            clear BK210
            clear HB
            have HO202 := n0_
            have HO205 := n1_
            have HO227 := n2_
            have HO230 := n3_
            have HO236 := n4_
            have BK151 := n5_
            have BK159 := n6_
            have BK167 := n7_
            have BK196 := n8_
            have BK210 := n9_
            have HB := n10_
            clear n0_ n1_ n2_ n3_ n4_ n5_ n6_ n7_ n8_ n9_ n10_
            (try clear hb)
            (try clear hb2)
            (try clear hk)
            (try clear hi)
            (try clear ho0)
            obtain ⟨Ao79, co79, eo79⟩ := Kd.R_slice HO236.out
            (first | subst eo79 | (injection eo79 with f1_ f2_ f3_; have f4_ := f1_.symm; have f5_ := f3_.symm; clear f1_ f2_ f3_; subst f4_; subst f5_))
            refine hK.out _ _ ⟨bc_ BK196 0, bc_ BK196 1, bc_ BK151 0, bc_ BK151 1, bc_ BK151 2⟩ (fun hHeld => ?_)
            clear hK K
            refine norm_ (a' := ?_) ?_ ?_
            rotate_left
            ·show Act.put _ (some 43) _ = _
             simp only [Act.put, List.setIfInBounds_toArray, List.set_cons_zero, List.set_cons_succ, i64_w, i32_w]
             rfl
            refine two_ (i := 3) (j := 7) (Ni := some 44) (Nj := some 7) #[true, true, true, true, false, false, false, false, false, false] #[true, true, true, false, false, false, false, true, false, false] rfl rfl rfl rfl (two_of HT_.out (by kernel_rfl)) (by decide) (by decide) (fun K hK => ?_) (fun K hK => ?_)
            ·skip
             refine goes_ Try.func27 (by kernel_rfl) rfl #[.agg #[.string t192, .slice Ao74 y228.length co74], .agg #[.int .i64 0, .slice none 0 0, .slice none 0 0], .agg #[.int .i64 600, .int .i64 660, .int .i64 640, .slice Ao79 t234.length co79]] (by rfl) rfl rfl mp_ ?_
             refine (bill_Bill.calls t192 _ _ y228 0 _ _ ([] : List (S99)) _ _ ([] : List Int) 600 660 640 _ _ t234 t237 1000 191 1191 0 _ ?side1 ?side2 ?side3 ?side4 ?side5 ?side6 ?side7 ?side8 A13.out).mono ?_
             (case side1 => repeat (first | exact (Kd.R_reads' HO230.out).2.2 | (with_reducible refine Kd.C_alloc ?_ _) | (with_reducible refine Kd.C_drewN ?_ _) | (with_reducible refine Kd.C_drew ?_)))
             (case side2 => exact (Kd.R_reads' HO230.out).2.1)
             (case side3 => exact Kd.C_nil _ _)
             (case side4 => exact Nat.le_refl _)
             (case side5 => exact Kd.C_nil _ _)
             (case side6 => exact Nat.le_refl _)
             (case side7 => repeat (first | exact (Kd.R_reads' HO236.out).2.2 | (with_reducible refine Kd.C_alloc ?_ _) | (with_reducible refine Kd.C_drewN ?_ _) | (with_reducible refine Kd.C_drew ?_)))
             (case side8 => exact (Kd.R_reads' HO236.out).2.1)
             rintro e w80 ⟨v238, rfl, ho0, hb⟩
             refine ⟨_, rfl, ?_⟩
             have n0_ := Aside0.mk (Kd.R_below (kr_ HO202) hb)
             have n1_ := Aside0.mk (Kd.R_elder' (kr_ HO205) (Kd.R_base ho0) hb)
             have n2_ := Aside0.mk (Kd.R_below (kr_ HO227) hb)
             have n3_ := Aside0.mk (Kd.R_below (kr_ HO230) hb)
             have n4_ := Aside0.mk (Kd.R_below (kr_ HO236) hb)
             have n5_ := Aside0.mk (Kd.R_lower (Kd.R_new' ho0 (Kd.R_lt (kr_ HO205))) (below_size (hb_ HB)))
             have n6_ := (bb_ BK151 hb)
             have n7_ := (bb_ BK159 hb)
             have n8_ := (bb_ BK167 hb)
             have n9_ := (bb_ BK196 hb)
             have n10_ := (bb_ BK210 hb)
             have n11_ := Aside0.mk (below_step (hb_ HB) hb)
             clear HO202
             clear HO205
             clear HO227
             clear HO230
             clear HO236
             clear BK151
             clear BK159
             clear BK167
             clear BK196
             clear BK210
             clear HB
             have HO202 := n0_
             have HO205 := n1_
             have HO227 := n2_
             have HO230 := n3_
             have HO236 := n4_
             have HO239 := n5_
             have BK151 := n6_
             have BK159 := n7_
             have BK167 := n8_
             have BK196 := n9_
             have BK210 := n10_
             have HB := n11_
             clear n0_ n1_ n2_ n3_ n4_ n5_ n6_ n7_ n8_ n9_ n10_ n11_
             (try clear hb)
             (try clear hb2)
             (try clear hk)
             (try clear hi)
             (try clear ho0)
             refine hK.out _ _ ⟨bc_ BK196 0, bc_ BK196 1, bc_ BK151 0, bc_ BK151 1, bc_ BK151 2⟩ (fun hHeld => ?_)
             clear hK K
             refine norm_ (a' := ?_) ?_ ?_
             rotate_left
             ·show Act.put _ (some 44) _ = _
              simp only [Act.put, List.setIfInBounds_toArray, List.set_cons_zero, List.set_cons_succ, i64_w, i32_w]
              rfl
             refine pure_ (i := 4) (N := some 40) (v := ?_) (a' := ?_) #[true, true, true, true, true, false, false, false, false, false] rfl rfl (any_of HT_.out (by kernel_rfl)) (fun _ _ _ h => h) (Or.inl ⟨by rfl, ?_⟩) ?_ ?_
             rotate_left
             ·intro w'
              go_simp
              with_reducible rfl
             rotate_left
             ·simp only [Act.put, List.setIfInBounds_toArray, List.set_cons_zero, List.set_cons_succ, i64_w, i32_w]
              rfl
             refine pure_ (i := 5) (N := some 45) (v := ?_) (a' := ?_) #[true, true, true, true, true, true, false, false, false, false] rfl rfl (any_of HT_.out (by kernel_rfl)) (fun _ _ _ h => h) (Or.inl ⟨by rfl, ?_⟩) ?_ ?_
             rotate_left
             ·intro w'
              go_simp
              with_reducible rfl
             rotate_left
             ·simp only [Act.put, List.setIfInBounds_toArray, List.set_cons_zero, List.set_cons_succ, i64_w, i32_w]
              rfl
             refine pure_ (i := 6) (N := some 46) (v := ?_) (a' := ?_) #[true, true, true, true, true, true, true, false, false, false] rfl rfl (any_of HT_.out (by kernel_rfl)) (fun _ _ _ h => h) (Or.inl ⟨by rfl, ?_⟩) ?_ ?_
             rotate_left
             ·intro w'
              go_simp
              with_reducible rfl
             rotate_left
             ·simp only [Act.put, List.setIfInBounds_toArray, List.set_cons_zero, List.set_cons_succ, i64_w, i32_w]
              rfl
             refine one_ (i := 7) (N := some 7) #[true, true, true, true, true, true, true, true, false, false] rfl rfl (one_of HT_.out (by kernel_rfl)) (by decide) (fun K hK => ?_)
             refine box_step ?hg (N := 7) ?hd (cs := #[.slice none 0 0, .int .i64 0, .int .i64 0, .int .i64 0]) (t := 38) ?hr ?_; (case hd => rfl); (case hg => rfl); (case hr => first | (go_simp; done) | (go_simp; rfl))
             intro gb244 hg w81 hbox hb
             have n0_ := Aside0.mk (Kd.R_below (kr_ HO202) hb)
             have n1_ := Aside0.mk (Kd.R_below (kr_ HO205) hb)
             have n2_ := Aside0.mk (Kd.R_below (kr_ HO227) hb)
             have n3_ := Aside0.mk (Kd.R_below (kr_ HO230) hb)
             have n4_ := Aside0.mk (Kd.R_below (kr_ HO236) hb)
             have n5_ := Aside0.mk (Kd.R_below (kr_ HO239) hb)
             have n6_ := (bb_ BK151 hb)
             have n7_ := (bb_ BK159 hb)
             have n8_ := (bb_ BK167 hb)
             have n9_ := (bb_ BK196 hb)
             have n10_ := (bb_ BK210 hb)
             have n11_ := Aside0.mk (below_step (hb_ HB) hb)
             have n12_ := Aside0.mk (hbox)
             have n13_ := Aside0.mk ((by rw [hg]; exact (below_size (hb_ HB)) : w.heap.size ≤ gb244))
             have n14_ := Aside0.mk ((by rw [hg]; exact (below_size (hb_ HB)) : w.heap.size ≤ gb244))
             have n15_ := (nlt_ BK151 hg)
             have n16_ := (ngt_ BK151 hg)
             have n17_ := (nlt_ BK159 hg)
             have n18_ := (ngt_ BK159 hg)
             have n19_ := (nlt_ BK167 hg)
             have n20_ := (ngt_ BK167 hg)
             have n21_ := (nlt_ BK196 hg)
             have n22_ := (ngt_ BK196 hg)
             have n23_ := (nlt_ BK210 hg)
             have n24_ := (ngt_ BK210 hg)
             clear HO202
             clear HO205
             clear HO227
             clear HO230
             clear HO236
             clear HO239
             clear BK151
             clear BK159
             clear BK167
             clear BK196
             clear BK210
             clear HB
             have HO202 := n0_
             have HO205 := n1_
             have HO227 := n2_
             have HO230 := n3_
             have HO236 := n4_
             have HO239 := n5_
             have BK151 := n6_
             have BK159 := n7_
             have BK167 := n8_
             have BK196 := n9_
             have BK210 := n10_
             have HB := n11_
             have BK244 := n12_
             have GW244 := n13_
             have GE244 := n14_
             have NB151_244 := n15_
             have NB244_151 := n16_
             have NB159_244 := n17_
             have NB244_159 := n18_
             have NB167_244 := n19_
             have NB244_167 := n20_
             have NB196_244 := n21_
             have NB244_196 := n22_
             have NB210_244 := n23_
             have NB244_210 := n24_
             clear n0_ n1_ n2_ n3_ n4_ n5_ n6_ n7_ n8_ n9_ n10_ n11_ n12_ n13_ n14_ n15_ n16_ n17_ n18_ n19_ n20_ n21_ n22_ n23_ n24_
             clear hb hbox hg
             refine hK.out _ _ ⟨bc_ BK196 0, bc_ BK196 1, bc_ BK151 0, bc_ BK151 1, bc_ BK151 2⟩ (fun hHeld => ?_)
             clear hK K
             refine norm_ (a' := ?_) ?_ ?_
             rotate_left
             ·show Act.put _ (some 7) _ = _
              simp only [Act.put, List.setIfInBounds_toArray, List.set_cons_zero, List.set_cons_succ, i64_w, i32_w]
              rfl
             exact nrm_ (hCont (.slice Ao79 t234.length co79, v238, gb244) _ ⟨hHeld, (by (with_reducible repeat (first | apply Kd.R_alloc | apply Kd.R_drewN | apply Kd.R_drew)); exact Kd.R_mono HO202.out (fun _ hk => hk.2)), (by (with_reducible repeat (first | apply Kd.R_alloc | apply Kd.R_drewN | apply Kd.R_drew)); exact Kd.R_mono HO205.out (fun _ hk => hk.2)), (kr_ HO227), (kr_ HO230), (by (with_reducible repeat (first | apply Kd.R_alloc | apply Kd.R_drewN | apply Kd.R_drew)); exact Kd.R_mono HO236.out (fun _ hk => hk.2)), (by (with_reducible repeat (first | apply Kd.R_alloc | apply Kd.R_drewN | apply Kd.R_drew)); exact Kd.R_mono HO239.out (fun _ hk => hk.2)), (bk_ BK151), (bk_ BK159), (bk_ BK167), (bk_ BK196), (bk_ BK210), (bk_ BK244), GW244.out, GE244.out, NB151_244.out, NB244_151.out, NB159_244.out, NB244_159.out, NB167_244.out, NB244_167.out, NB196_244.out, NB244_196.out, NB210_244.out, NB244_210.out, (hb_ HB)⟩)
            ·skip
             refine box_step ?hg (N := 7) ?hd (cs := #[.slice none 0 0, .int .i64 0, .int .i64 0, .int .i64 0]) (t := 38) ?hr ?_; (case hd => rfl); (case hg => rfl); (case hr => first | (go_simp; done) | (go_simp; rfl))
             intro gb244 hg w79 hbox hb
             have n0_ := Aside0.mk (Kd.R_below (kr_ HO202) hb)
             have n1_ := Aside0.mk (Kd.R_below (kr_ HO205) hb)
             have n2_ := Aside0.mk (Kd.R_below (kr_ HO227) hb)
             have n3_ := Aside0.mk (Kd.R_below (kr_ HO230) hb)
             have n4_ := Aside0.mk (Kd.R_below (kr_ HO236) hb)
             have n5_ := (bb_ BK151 hb)
             have n6_ := (bb_ BK159 hb)
             have n7_ := (bb_ BK167 hb)
             have n8_ := (bb_ BK196 hb)
             have n9_ := (bb_ BK210 hb)
             have n10_ := Aside0.mk (below_step (hb_ HB) hb)
             have n11_ := Aside0.mk (hbox)
             have n12_ := Aside0.mk ((by rw [hg]; exact (below_size (hb_ HB)) : w.heap.size ≤ gb244))
             have n13_ := Aside0.mk ((by rw [hg]; exact (below_size (hb_ HB)) : w.heap.size ≤ gb244))
             have n14_ := (nlt_ BK151 hg)
             have n15_ := (ngt_ BK151 hg)
             have n16_ := (nlt_ BK159 hg)
             have n17_ := (ngt_ BK159 hg)
             have n18_ := (nlt_ BK167 hg)
             have n19_ := (ngt_ BK167 hg)
             have n20_ := (nlt_ BK196 hg)
             have n21_ := (ngt_ BK196 hg)
             have n22_ := (nlt_ BK210 hg)
             have n23_ := (ngt_ BK210 hg)
             clear HO202
             clear HO205
             clear HO227
             clear HO230
             clear HO236
             clear BK151
             clear BK159
             clear BK167
             clear BK196
             clear BK210
             clear HB
             have HO202 := n0_
             have HO205 := n1_
             have HO227 := n2_
             have HO230 := n3_
             have HO236 := n4_
             have BK151 := n5_
             have BK159 := n6_
             have BK167 := n7_
             have BK196 := n8_
             have BK210 := n9_
             have HB := n10_
             have BK244 := n11_
             have GW244 := n12_
             have GE244 := n13_
             have NB151_244 := n14_
             have NB244_151 := n15_
             have NB159_244 := n16_
             have NB244_159 := n17_
             have NB167_244 := n18_
             have NB244_167 := n19_
             have NB196_244 := n20_
             have NB244_196 := n21_
             have NB210_244 := n22_
             have NB244_210 := n23_
             clear n0_ n1_ n2_ n3_ n4_ n5_ n6_ n7_ n8_ n9_ n10_ n11_ n12_ n13_ n14_ n15_ n16_ n17_ n18_ n19_ n20_ n21_ n22_ n23_
             clear hb hbox hg
             obtain ⟨Ao80, co80, eo80⟩ := Kd.R_slice HO236.out
             (first | subst eo80 | (injection eo80 with f1_ f2_ f3_; have f4_ := f1_.symm; have f5_ := f3_.symm; clear f1_ f2_ f3_; subst f4_; subst f5_))
             refine hK.out _ _ ⟨bc_ BK196 0, bc_ BK196 1, bc_ BK151 0, bc_ BK151 1, bc_ BK151 2⟩ (fun hHeld => ?_)
             clear hK K
             refine norm_ (a' := ?_) ?_ ?_
             rotate_left
             ·show Act.put _ (some 7) _ = _
              simp only [Act.put, List.setIfInBounds_toArray, List.set_cons_zero, List.set_cons_succ, i64_w, i32_w]
              rfl
             refine one_ (i := 3) (N := some 44) #[true, true, true, true, false, false, false, true, false, false] rfl rfl (one_of HT_.out (by kernel_rfl)) (by decide) (fun K hK => ?_)
             refine goes_ Try.func27 (by kernel_rfl) rfl #[.agg #[.string t192, .slice Ao74 y228.length co74], .agg #[.int .i64 0, .slice none 0 0, .slice none 0 0], .agg #[.int .i64 600, .int .i64 660, .int .i64 640, .slice Ao80 t234.length co80]] (by rfl) rfl rfl mp_ ?_
             refine (bill_Bill.calls t192 _ _ y228 0 _ _ ([] : List (S99)) _ _ ([] : List Int) 600 660 640 _ _ t234 t237 1000 191 1191 0 _ ?side1 ?side2 ?side3 ?side4 ?side5 ?side6 ?side7 ?side8 A13.out).mono ?_
             (case side1 => repeat (first | exact (Kd.R_reads' HO230.out).2.2 | (with_reducible refine Kd.C_alloc ?_ _) | (with_reducible refine Kd.C_drewN ?_ _) | (with_reducible refine Kd.C_drew ?_)))
             (case side2 => exact (Kd.R_reads' HO230.out).2.1)
             (case side3 => exact Kd.C_nil _ _)
             (case side4 => exact Nat.le_refl _)
             (case side5 => exact Kd.C_nil _ _)
             (case side6 => exact Nat.le_refl _)
             (case side7 => repeat (first | exact (Kd.R_reads' HO236.out).2.2 | (with_reducible refine Kd.C_alloc ?_ _) | (with_reducible refine Kd.C_drewN ?_ _) | (with_reducible refine Kd.C_drew ?_)))
             (case side8 => exact (Kd.R_reads' HO236.out).2.1)
             rintro e w81 ⟨v238, rfl, ho0, hb⟩
             refine ⟨_, rfl, ?_⟩
             have n0_ := Aside0.mk (Kd.R_below (kr_ HO202) hb)
             have n1_ := Aside0.mk (Kd.R_elder' (kr_ HO205) (Kd.R_base ho0) hb)
             have n2_ := Aside0.mk (Kd.R_below (kr_ HO227) hb)
             have n3_ := Aside0.mk (Kd.R_below (kr_ HO230) hb)
             have n4_ := Aside0.mk (Kd.R_below (kr_ HO236) hb)
             have n5_ := Aside0.mk (Kd.R_lower (Kd.R_new' ho0 (Kd.R_lt (kr_ HO205))) (below_size (hb_ HB)))
             have n6_ := (bb_ BK151 hb)
             have n7_ := (bb_ BK159 hb)
             have n8_ := (bb_ BK167 hb)
             have n9_ := (bb_ BK196 hb)
             have n10_ := (bb_ BK210 hb)
             have n11_ := (bb_ BK244 hb)
             have n12_ := Aside0.mk (below_step (hb_ HB) hb)
             clear HO202
             clear HO205
             clear HO227
             clear HO230
             clear HO236
             clear BK151
             clear BK159
             clear BK167
             clear BK196
             clear BK210
             clear BK244
             clear HB
             have HO202 := n0_
             have HO205 := n1_
             have HO227 := n2_
             have HO230 := n3_
             have HO236 := n4_
             have HO239 := n5_
             have BK151 := n6_
             have BK159 := n7_
             have BK167 := n8_
             have BK196 := n9_
             have BK210 := n10_
             have BK244 := n11_
             have HB := n12_
             clear n0_ n1_ n2_ n3_ n4_ n5_ n6_ n7_ n8_ n9_ n10_ n11_ n12_
             (try clear hb)
             (try clear hb2)
             (try clear hk)
             (try clear hi)
             (try clear ho0)
             refine hK.out _ _ ⟨bc_ BK196 0, bc_ BK196 1, bc_ BK151 0, bc_ BK151 1, bc_ BK151 2⟩ (fun hHeld => ?_)
             clear hK K
             refine norm_ (a' := ?_) ?_ ?_
             rotate_left
             ·show Act.put _ (some 44) _ = _
              simp only [Act.put, List.setIfInBounds_toArray, List.set_cons_zero, List.set_cons_succ, i64_w, i32_w]
              rfl
             refine pure_ (i := 4) (N := some 40) (v := ?_) (a' := ?_) #[true, true, true, true, true, false, false, true, false, false] rfl rfl (any_of HT_.out (by kernel_rfl)) (fun _ _ _ h => h) (Or.inl ⟨by rfl, ?_⟩) ?_ ?_
             rotate_left
             ·intro w'
              go_simp
              with_reducible rfl
             rotate_left
             ·simp only [Act.put, List.setIfInBounds_toArray, List.set_cons_zero, List.set_cons_succ, i64_w, i32_w]
              rfl
             refine pure_ (i := 5) (N := some 45) (v := ?_) (a' := ?_) #[true, true, true, true, true, true, false, true, false, false] rfl rfl (any_of HT_.out (by kernel_rfl)) (fun _ _ _ h => h) (Or.inl ⟨by rfl, ?_⟩) ?_ ?_
             rotate_left
             ·intro w'
              go_simp
              with_reducible rfl
             rotate_left
             ·simp only [Act.put, List.setIfInBounds_toArray, List.set_cons_zero, List.set_cons_succ, i64_w, i32_w]
              rfl
             refine pure_ (i := 6) (N := some 46) (v := ?_) (a' := ?_) #[true, true, true, true, true, true, true, true, false, false] rfl rfl (any_of HT_.out (by kernel_rfl)) (fun _ _ _ h => h) (Or.inl ⟨by rfl, ?_⟩) ?_ ?_
             rotate_left
             ·intro w'
              go_simp
              with_reducible rfl
             rotate_left
             ·simp only [Act.put, List.setIfInBounds_toArray, List.set_cons_zero, List.set_cons_succ, i64_w, i32_w]
              rfl
             exact nrm_ (hCont (.slice Ao80 t234.length co80, v238, gb244) _ ⟨hHeld, (by (with_reducible repeat (first | apply Kd.R_alloc | apply Kd.R_drewN | apply Kd.R_drew)); exact Kd.R_mono HO202.out (fun _ hk => hk.2)), (by (with_reducible repeat (first | apply Kd.R_alloc | apply Kd.R_drewN | apply Kd.R_drew)); exact Kd.R_mono HO205.out (fun _ hk => hk.2)), (kr_ HO227), (kr_ HO230), (by (with_reducible repeat (first | apply Kd.R_alloc | apply Kd.R_drewN | apply Kd.R_drew)); exact Kd.R_mono HO236.out (fun _ hk => hk.2)), (by (with_reducible repeat (first | apply Kd.R_alloc | apply Kd.R_drewN | apply Kd.R_drew)); exact Kd.R_mono HO239.out (fun _ hk => hk.2)), (bk_ BK151), (bk_ BK159), (bk_ BK167), (bk_ BK196), (bk_ BK210), (bk_ BK244), GW244.out, GE244.out, NB151_244.out, NB244_151.out, NB159_244.out, NB244_159.out, NB167_244.out, NB244_167.out, NB196_244.out, NB244_196.out, NB210_244.out, NB244_210.out, (hb_ HB)⟩)
           ·skip
            refine box_step ?hg (N := 7) ?hd (cs := #[.slice none 0 0, .int .i64 0, .int .i64 0, .int .i64 0]) (t := 38) ?hr ?_; (case hd => rfl); (case hg => rfl); (case hr => first | (go_simp; done) | (go_simp; rfl))
            intro gb244 hg w78 hbox hb
            have n0_ := Aside0.mk (Kd.R_below (kr_ HO202) hb)
            have n1_ := Aside0.mk (Kd.R_below (kr_ HO205) hb)
            have n2_ := Aside0.mk (Kd.R_below (kr_ HO227) hb)
            have n3_ := Aside0.mk (Kd.R_below (kr_ HO230) hb)
            have n4_ := (bb_ BK151 hb)
            have n5_ := (bb_ BK159 hb)
            have n6_ := (bb_ BK167 hb)
            have n7_ := (bb_ BK196 hb)
            have n8_ := (bb_ BK210 hb)
            have n9_ := Aside0.mk (below_step (hb_ HB) hb)
            have n10_ := Aside0.mk (hbox)
            have n11_ := Aside0.mk ((by rw [hg]; exact (below_size (hb_ HB)) : w.heap.size ≤ gb244))
            have n12_ := Aside0.mk ((by rw [hg]; exact (below_size (hb_ HB)) : w.heap.size ≤ gb244))
            have n13_ := (nlt_ BK151 hg)
            have n14_ := (ngt_ BK151 hg)
            have n15_ := (nlt_ BK159 hg)
            have n16_ := (ngt_ BK159 hg)
            have n17_ := (nlt_ BK167 hg)
            have n18_ := (ngt_ BK167 hg)
            have n19_ := (nlt_ BK196 hg)
            have n20_ := (ngt_ BK196 hg)
            have n21_ := (nlt_ BK210 hg)
            have n22_ := (ngt_ BK210 hg)
            clear HO202
            clear HO205
            clear HO227
            clear HO230
            clear BK151
            clear BK159
            clear BK167
            clear BK196
            clear BK210
            clear HB
            have HO202 := n0_
            have HO205 := n1_
            have HO227 := n2_
            have HO230 := n3_
            have BK151 := n4_
            have BK159 := n5_
            have BK167 := n6_
            have BK196 := n7_
            have BK210 := n8_
            have HB := n9_
            have BK244 := n10_
            have GW244 := n11_
            have GE244 := n12_
            have NB151_244 := n13_
            have NB244_151 := n14_
            have NB159_244 := n15_
            have NB244_159 := n16_
            have NB167_244 := n17_
            have NB244_167 := n18_
            have NB196_244 := n19_
            have NB244_196 := n20_
            have NB210_244 := n21_
            have NB244_210 := n22_
            clear n0_ n1_ n2_ n3_ n4_ n5_ n6_ n7_ n8_ n9_ n10_ n11_ n12_ n13_ n14_ n15_ n16_ n17_ n18_ n19_ n20_ n21_ n22_
            clear hb hbox hg
            refine hK.out _ _ ⟨bc_ BK196 0, bc_ BK196 1, bc_ BK151 0, bc_ BK151 1, bc_ BK151 2⟩ (fun hHeld => ?_)
            clear hK K
            refine norm_ (a' := ?_) ?_ ?_
            rotate_left
            ·show Act.put _ (some 7) _ = _
             simp only [Act.put, List.setIfInBounds_toArray, List.set_cons_zero, List.set_cons_succ, i64_w, i32_w]
             rfl
            refine one_ (i := 2) (N := some 43) #[true, true, true, false, false, false, false, true, false, false] rfl rfl (one_of HT_.out (by kernel_rfl)) (by decide) (fun K hK => ?_)
            refine goes_ Try.func55 (by kernel_rfl) rfl #[] (by rfl) rfl rfl mp_ ?_
            with_reducible refine (chargeparklaw33_example.calls  600 660 640 t234 _ A12.out).mono ?_
            rintro e w79 ⟨v235, rfl, ho0, hb⟩
            refine ⟨_, rfl, ?_⟩
            have n0_ := Aside0.mk (Kd.R_elder' (kr_ HO202) (Kd.R_base ho0) hb)
            have n1_ := Aside0.mk (Kd.R_below (kr_ HO205) hb)
            have n2_ := Aside0.mk (Kd.R_below (kr_ HO227) hb)
            have n3_ := Aside0.mk (Kd.R_below (kr_ HO230) hb)
            have n4_ := Aside0.mk (Kd.R_lower (Kd.R_new' ho0 (Kd.R_lt (kr_ HO202))) (below_size (hb_ HB)))
            have n5_ := (bb_ BK151 hb)
            have n6_ := (bb_ BK159 hb)
            have n7_ := (bb_ BK167 hb)
            have n8_ := (bb_ BK196 hb)
            have n9_ := (bb_ BK210 hb)
            have n10_ := (bb_ BK244 hb)
            have n11_ := Aside0.mk (below_step (hb_ HB) hb)
            clear HO202
            clear HO205
            clear HO227
            clear HO230
            clear BK151
            clear BK159
            clear BK167
            clear BK196
            clear BK210
            clear BK244
            clear HB
            have HO202 := n0_
            have HO205 := n1_
            have HO227 := n2_
            have HO230 := n3_
            have HO236 := n4_
            have BK151 := n5_
            have BK159 := n6_
            have BK167 := n7_
            have BK196 := n8_
            have BK210 := n9_
            have BK244 := n10_
            have HB := n11_
            clear n0_ n1_ n2_ n3_ n4_ n5_ n6_ n7_ n8_ n9_ n10_ n11_
            (try clear hb)
            (try clear hb2)
            (try clear hk)
            (try clear hi)
            (try clear ho0)
            obtain ⟨Ao80, co80, eo80⟩ := Kd.R_slice HO236.out
            (first | subst eo80 | (injection eo80 with f1_ f2_ f3_; have f4_ := f1_.symm; have f5_ := f3_.symm; clear f1_ f2_ f3_; subst f4_; subst f5_))
            refine hK.out _ _ ⟨bc_ BK196 0, bc_ BK196 1, bc_ BK151 0, bc_ BK151 1, bc_ BK151 2⟩ (fun hHeld => ?_)
            clear hK K
            refine norm_ (a' := ?_) ?_ ?_
            rotate_left
            ·show Act.put _ (some 43) _ = _
             simp only [Act.put, List.setIfInBounds_toArray, List.set_cons_zero, List.set_cons_succ, i64_w, i32_w]
             rfl
            refine one_ (i := 3) (N := some 44) #[true, true, true, true, false, false, false, true, false, false] rfl rfl (one_of HT_.out (by kernel_rfl)) (by decide) (fun K hK => ?_)
            refine goes_ Try.func27 (by kernel_rfl) rfl #[.agg #[.string t192, .slice Ao74 y228.length co74], .agg #[.int .i64 0, .slice none 0 0, .slice none 0 0], .agg #[.int .i64 600, .int .i64 660, .int .i64 640, .slice Ao80 t234.length co80]] (by rfl) rfl rfl mp_ ?_
            refine (bill_Bill.calls t192 _ _ y228 0 _ _ ([] : List (S99)) _ _ ([] : List Int) 600 660 640 _ _ t234 t237 1000 191 1191 0 _ ?side1 ?side2 ?side3 ?side4 ?side5 ?side6 ?side7 ?side8 A13.out).mono ?_
            (case side1 => repeat (first | exact (Kd.R_reads' HO230.out).2.2 | (with_reducible refine Kd.C_alloc ?_ _) | (with_reducible refine Kd.C_drewN ?_ _) | (with_reducible refine Kd.C_drew ?_)))
            (case side2 => exact (Kd.R_reads' HO230.out).2.1)
            (case side3 => exact Kd.C_nil _ _)
            (case side4 => exact Nat.le_refl _)
            (case side5 => exact Kd.C_nil _ _)
            (case side6 => exact Nat.le_refl _)
            (case side7 => repeat (first | exact (Kd.R_reads' HO236.out).2.2 | (with_reducible refine Kd.C_alloc ?_ _) | (with_reducible refine Kd.C_drewN ?_ _) | (with_reducible refine Kd.C_drew ?_)))
            (case side8 => exact (Kd.R_reads' HO236.out).2.1)
            rintro e w81 ⟨v238, rfl, ho0, hb⟩
            refine ⟨_, rfl, ?_⟩
            have n0_ := Aside0.mk (Kd.R_below (kr_ HO202) hb)
            have n1_ := Aside0.mk (Kd.R_elder' (kr_ HO205) (Kd.R_base ho0) hb)
            have n2_ := Aside0.mk (Kd.R_below (kr_ HO227) hb)
            have n3_ := Aside0.mk (Kd.R_below (kr_ HO230) hb)
            have n4_ := Aside0.mk (Kd.R_below (kr_ HO236) hb)
            have n5_ := Aside0.mk (Kd.R_lower (Kd.R_new' ho0 (Kd.R_lt (kr_ HO205))) (below_size (hb_ HB)))
            have n6_ := (bb_ BK151 hb)
            have n7_ := (bb_ BK159 hb)
            have n8_ := (bb_ BK167 hb)
            have n9_ := (bb_ BK196 hb)
            have n10_ := (bb_ BK210 hb)
            have n11_ := (bb_ BK244 hb)
            have n12_ := Aside0.mk (below_step (hb_ HB) hb)
            clear HO202
            clear HO205
            clear HO227
            clear HO230
            clear HO236
            clear BK151
            clear BK159
            clear BK167
            clear BK196
            clear BK210
            clear BK244
            clear HB
            have HO202 := n0_
            have HO205 := n1_
            have HO227 := n2_
            have HO230 := n3_
            have HO236 := n4_
            have HO239 := n5_
            have BK151 := n6_
            have BK159 := n7_
            have BK167 := n8_
            have BK196 := n9_
            have BK210 := n10_
            have BK244 := n11_
            have HB := n12_
            clear n0_ n1_ n2_ n3_ n4_ n5_ n6_ n7_ n8_ n9_ n10_ n11_ n12_
            (try clear hb)
            (try clear hb2)
            (try clear hk)
            (try clear hi)
            (try clear ho0)
            refine hK.out _ _ ⟨bc_ BK196 0, bc_ BK196 1, bc_ BK151 0, bc_ BK151 1, bc_ BK151 2⟩ (fun hHeld => ?_)
            clear hK K
            refine norm_ (a' := ?_) ?_ ?_
            rotate_left
            ·show Act.put _ (some 44) _ = _
             simp only [Act.put, List.setIfInBounds_toArray, List.set_cons_zero, List.set_cons_succ, i64_w, i32_w]
             rfl
            refine pure_ (i := 4) (N := some 40) (v := ?_) (a' := ?_) #[true, true, true, true, true, false, false, true, false, false] rfl rfl (any_of HT_.out (by kernel_rfl)) (fun _ _ _ h => h) (Or.inl ⟨by rfl, ?_⟩) ?_ ?_
            rotate_left
            ·intro w'
             go_simp
             with_reducible rfl
            rotate_left
            ·simp only [Act.put, List.setIfInBounds_toArray, List.set_cons_zero, List.set_cons_succ, i64_w, i32_w]
             rfl
            refine pure_ (i := 5) (N := some 45) (v := ?_) (a' := ?_) #[true, true, true, true, true, true, false, true, false, false] rfl rfl (any_of HT_.out (by kernel_rfl)) (fun _ _ _ h => h) (Or.inl ⟨by rfl, ?_⟩) ?_ ?_
            rotate_left
            ·intro w'
             go_simp
             with_reducible rfl
            rotate_left
            ·simp only [Act.put, List.setIfInBounds_toArray, List.set_cons_zero, List.set_cons_succ, i64_w, i32_w]
             rfl
            refine pure_ (i := 6) (N := some 46) (v := ?_) (a' := ?_) #[true, true, true, true, true, true, true, true, false, false] rfl rfl (any_of HT_.out (by kernel_rfl)) (fun _ _ _ h => h) (Or.inl ⟨by rfl, ?_⟩) ?_ ?_
            rotate_left
            ·intro w'
             go_simp
             with_reducible rfl
            rotate_left
            ·simp only [Act.put, List.setIfInBounds_toArray, List.set_cons_zero, List.set_cons_succ, i64_w, i32_w]
             rfl
            exact nrm_ (hCont (.slice Ao80 t234.length co80, v238, gb244) _ ⟨hHeld, (by (with_reducible repeat (first | apply Kd.R_alloc | apply Kd.R_drewN | apply Kd.R_drew)); exact Kd.R_mono HO202.out (fun _ hk => hk.2)), (by (with_reducible repeat (first | apply Kd.R_alloc | apply Kd.R_drewN | apply Kd.R_drew)); exact Kd.R_mono HO205.out (fun _ hk => hk.2)), (kr_ HO227), (kr_ HO230), (by (with_reducible repeat (first | apply Kd.R_alloc | apply Kd.R_drewN | apply Kd.R_drew)); exact Kd.R_mono HO236.out (fun _ hk => hk.2)), (by (with_reducible repeat (first | apply Kd.R_alloc | apply Kd.R_drewN | apply Kd.R_drew)); exact Kd.R_mono HO239.out (fun _ hk => hk.2)), (bk_ BK151), (bk_ BK159), (bk_ BK167), (bk_ BK196), (bk_ BK210), (bk_ BK244), GW244.out, GE244.out, NB151_244.out, NB244_151.out, NB159_244.out, NB244_159.out, NB167_244.out, NB244_167.out, NB196_244.out, NB244_196.out, NB210_244.out, NB244_210.out, (hb_ HB)⟩)
          rintro ⟨v235, v238, gb244⟩ w82 ⟨hS_, h0_, h1_, h2_, h3_, h4_, h5_, h6_, h7_, h8_, h9_, h10_, h11_, h12_, h13_, h14_, h15_, h16_, h17_, h18_, h19_, h20_, h21_, h22_, h23_, h24_⟩
          (try dsimp only at h0_ h1_ h2_ h3_ h4_ h5_ h6_ h7_ h8_ h9_ h10_ h11_ h12_ h13_ h14_ h15_ h16_ h17_ h18_ h19_ h20_ h21_ h22_ h23_ h24_)
          clear HO202
          clear HO205
          clear HO227
          clear HO230
          clear BK151
          clear BK159
          clear BK167
          clear BK196
          clear BK210
          clear HB
          have HO202 := Aside0.mk h0_
          have HO205 := Aside0.mk h1_
          have HO227 := Aside0.mk h2_
          have HO230 := Aside0.mk h3_
          have HO236 := Aside0.mk h4_
          have HO239 := Aside0.mk h5_
          have BK151 := Aside0.mk h6_
          have BK159 := Aside0.mk h7_
          have BK167 := Aside0.mk h8_
          have BK196 := Aside0.mk h9_
          have BK210 := Aside0.mk h10_
          have BK244 := Aside0.mk h11_
          have GW244 := Aside0.mk h12_
          have GE244 := Aside0.mk h13_
          have NB151_244 := Aside0.mk h14_
          have NB244_151 := Aside0.mk h15_
          have NB159_244 := Aside0.mk h16_
          have NB244_159 := Aside0.mk h17_
          have NB167_244 := Aside0.mk h18_
          have NB244_167 := Aside0.mk h19_
          have NB196_244 := Aside0.mk h20_
          have NB244_196 := Aside0.mk h21_
          have NB210_244 := Aside0.mk h22_
          have NB244_210 := Aside0.mk h23_
          have HB := Aside0.mk h24_
          clear h0_ h1_ h2_ h3_ h4_ h5_ h6_ h7_ h8_ h9_ h10_ h11_ h12_ h13_ h14_ h15_ h16_ h17_ h18_ h19_ h20_ h21_ h22_ h23_ h24_
          have hHeld : w82.cell? ⟨gb196, 0, none⟩ = some (.string t192) ∧ w82.cell? ⟨gb196, 1, none⟩ = some (.slice Ao74 y228.length co74) ∧ w82.cell? ⟨gb151, 0, none⟩ = some (.int .i64 0) ∧ w82.cell? ⟨gb151, 1, none⟩ = some (.slice none 0 0) ∧ w82.cell? ⟨gb151, 2, none⟩ = some (.slice none 0 0) := hS_
          obtain ⟨Ao83, co83, eo83⟩ := Kd.R_slice HO239.out
          (first | subst eo83 | (injection eo83 with f1_ f2_ f3_; have f4_ := f1_.symm; have f5_ := f3_.symm; clear f1_ f2_ f3_; subst f4_; subst f5_))
          refine norm_ (a' := ?_) ?_ ?_
          rotate_left
          ·simp only [putAll, Act.put, List.setIfInBounds_toArray, List.set_cons_zero, List.set_cons_succ]
           rfl
          refine one_ (i := 8) (N := none) #[true, true, true, true, true, true, true, true, true, false] rfl rfl (one_of HT_.out (by kernel_rfl)) (by decide) (fun K hK => ?_)
          have hs84 : w82.cell? ⟨gb244, 0, none⟩ = some (.slice none 0 0) := bc_ BK244 0
          have hfs84 := blk_frozen BK244.out 0
          have hns84_0 := NB151_244.out
          have hns84_1 := NB159_244.out
          have hns84_2 := NB167_244.out
          have hns84_3 := NB196_244.out
          have hns84_4 := NB210_244.out
          have hms84_0 := NB244_151.out
          have hms84_1 := NB244_159.out
          have hms84_2 := NB244_167.out
          have hms84_3 := NB244_196.out
          have hms84_4 := NB244_210.out
          have hs85 : w82.cell? ⟨gb244, 1, none⟩ = some (.int .i64 0) := bc_ BK244 1
          have hfs85 := blk_frozen BK244.out 1
          have hns85_0 := NB151_244.out
          have hns85_1 := NB159_244.out
          have hns85_2 := NB167_244.out
          have hns85_3 := NB196_244.out
          have hns85_4 := NB210_244.out
          have hms85_0 := NB244_151.out
          have hms85_1 := NB244_159.out
          have hms85_2 := NB244_167.out
          have hms85_3 := NB244_196.out
          have hms85_4 := NB244_210.out
          have hs86 : w82.cell? ⟨gb244, 2, none⟩ = some (.int .i64 0) := bc_ BK244 2
          have hfs86 := blk_frozen BK244.out 2
          have hns86_0 := NB151_244.out
          have hns86_1 := NB159_244.out
          have hns86_2 := NB167_244.out
          have hns86_3 := NB196_244.out
          have hns86_4 := NB210_244.out
          have hms86_0 := NB244_151.out
          have hms86_1 := NB244_159.out
          have hms86_2 := NB244_167.out
          have hms86_3 := NB244_196.out
          have hms86_4 := NB244_210.out
          have hs87 : w82.cell? ⟨gb244, 3, none⟩ = some (.int .i64 0) := bc_ BK244 3
          have hfs87 := blk_frozen BK244.out 3
          have hns87_0 := NB151_244.out
          have hns87_1 := NB159_244.out
          have hns87_2 := NB167_244.out
          have hns87_3 := NB196_244.out
          have hns87_4 := NB210_244.out
          have hms87_0 := NB244_151.out
          have hms87_1 := NB244_159.out
          have hms87_2 := NB244_167.out
          have hms87_3 := NB244_196.out
          have hms87_4 := NB244_210.out
          refine skip_ (w1 := ?_) (by rfl) rfl ?_ ?_
          rotate_left
          ·go_simp
           rfl
          refine hK.out _ _ ⟨((cell_far (p := ⟨gb244, _, none⟩) NB196_244.out _).trans (((cell_far (p := ⟨gb244, _, none⟩) NB196_244.out _).trans (((cell_far (p := ⟨gb244, _, none⟩) NB196_244.out _).trans (((cell_far (p := ⟨gb244, _, none⟩) NB196_244.out _).trans (hHeld.1)))))))), ((cell_far (p := ⟨gb244, _, none⟩) NB196_244.out _).trans (((cell_far (p := ⟨gb244, _, none⟩) NB196_244.out _).trans (((cell_far (p := ⟨gb244, _, none⟩) NB196_244.out _).trans (((cell_far (p := ⟨gb244, _, none⟩) NB196_244.out _).trans (hHeld.2.1)))))))), ((cell_far (p := ⟨gb244, _, none⟩) NB151_244.out _).trans (((cell_far (p := ⟨gb244, _, none⟩) NB151_244.out _).trans (((cell_far (p := ⟨gb244, _, none⟩) NB151_244.out _).trans (((cell_far (p := ⟨gb244, _, none⟩) NB151_244.out _).trans (hHeld.2.2.1)))))))), ((cell_far (p := ⟨gb244, _, none⟩) NB151_244.out _).trans (((cell_far (p := ⟨gb244, _, none⟩) NB151_244.out _).trans (((cell_far (p := ⟨gb244, _, none⟩) NB151_244.out _).trans (((cell_far (p := ⟨gb244, _, none⟩) NB151_244.out _).trans (hHeld.2.2.2.1)))))))), ((cell_far (p := ⟨gb244, _, none⟩) NB151_244.out _).trans (((cell_far (p := ⟨gb244, _, none⟩) NB151_244.out _).trans (((cell_far (p := ⟨gb244, _, none⟩) NB151_244.out _).trans (((cell_far (p := ⟨gb244, _, none⟩) NB151_244.out _).trans (hHeld.2.2.2.2))))))))⟩ (fun hHeld => ?_)
          clear hK K
          refine pure_ (i := 9) (N := some 8) (v := ?_) (a' := ?_) #[true, true, true, true, true, true, true, true, true, true] rfl rfl (any_of HT_.out (by kernel_rfl)) (fun _ _ _ h => h) (Or.inl ⟨by rfl, ?_⟩) ?_ ?_
          rotate_left
          ·intro w'
           go_simp
           with_reducible rfl
          rotate_left
          ·simp only [Act.put, List.setIfInBounds_toArray, List.set_cons_zero, List.set_cons_succ, i64_w, i32_w]
           rfl
          refine done_ (done_of HT_.out (by kernel_rfl)) ?_
          have hnb88 := NB196_151.out
          have hnc88 := NB151_196.out
          have hnb89 := NB196_159.out
          have hnc89 := NB159_196.out
          have hnb90 := NB196_167.out
          have hnc90 := NB167_196.out
          have hnb91 := NB196_210.out
          have hnc91 := NB210_196.out
          have hnb92 := NB196_244.out
          have hnc92 := NB244_196.out
          have hcz93_0 : w82.cell? ⟨gb196, 0, none⟩ = some (.string t192) := bc_ BK196 0
          have hcz93_1 : w82.cell? ⟨gb196, 1, none⟩ = some (.slice Ao74 y228.length co74) := bc_ BK196 1
          have hfz93_0 := blk_frozen BK196.out 0
          have hfz93_1 := blk_frozen BK196.out 1
          have hnb94 := NB151_210.out
          have hnc94 := NB210_151.out
          have hnb95 := NB151_244.out
          have hnc95 := NB244_151.out
          have hcz96_0 : w82.cell? ⟨gb151, 0, none⟩ = some (.int .i64 0) := bc_ BK151 0
          have hcz96_1 : w82.cell? ⟨gb151, 1, none⟩ = some (.slice none 0 0) := bc_ BK151 1
          have hcz96_2 : w82.cell? ⟨gb151, 2, none⟩ = some (.slice none 0 0) := bc_ BK151 2
          have hfz96_0 := blk_frozen BK151.out 0
          have hfz96_1 := blk_frozen BK151.out 1
          have hfz96_2 := blk_frozen BK151.out 2
          try go_wp2_with (first | ((with_reducible refine gate_callee (f := 27) rfl ?_); refine goesL_ (some 51) rfl rfl Try.func27 (by kernel_rfl) rfl #[.agg #[.string t192, .slice Ao74 y228.length co74], .agg #[.int .i64 0, .slice none 0 0, .slice none 0 0], .agg #[.int .i64 0, .int .i64 0, .int .i64 0, .slice none 0 0]] rfl mp_ ?_; (refine (bill_Bill.calls t192 _ _ y228 0 _ _ ([] : List (S99)) _ _ ([] : List Int) 0 0 0 _ _ ([] : List (S50)) t245 0 0 0 1 _ ?side1 ?side2 ?side3 ?side4 ?side5 ?side6 ?side7 ?side8 A14.out).mono ?_); (case side1 => refine (Kd.R_reads' (e := 26) (base := w.heap.size) (ok := fun k_ => (some k_ ≠ (.slice Ao73 y225.length co73 : Value).ownBlock ∧ (k_ ≠ gb159 ∧ k_ ≠ gb167))) (n := y228.length) (c := co74) ?_).2.2; exact (by (with_reducible repeat (first | apply Kd.R_alloc | apply Kd.R_drewN | apply Kd.R_drew)); exact (Kd.R_mono (Kd.R_far (p := ⟨gb244, 3, none⟩) (Kd.R_far (p := ⟨gb244, 2, none⟩) (Kd.R_far (p := ⟨gb244, 1, none⟩) (Kd.R_far (p := ⟨gb244, 0, none⟩) (Kd.R_types HO230.out BK244.out (by decide)) (fun _ hk => hk.2) (.slice Ao83 t237.length co83)) (fun _ hk => hk.2) (.int .i64 1000)) (fun _ hk => hk.2) (.int .i64 191)) (fun _ hk => hk.2) (.int .i64 1191)) (fun _ h_ => h_.1)))); (case side2 => exact (Kd.R_reads' HO230.out).2.1); (case side3 => exact Kd.C_nil _ _); (case side4 => exact Nat.le_refl _); (case side5 => exact Kd.C_nil _ _); (case side6 => exact Nat.le_refl _); (case side7 => exact Kd.C_nil _ _); (case side8 => exact Nat.le_refl _); rintro e w97 ⟨v246, rfl, ho0, hb⟩; refine ⟨_, rfl, ?_⟩; have n0_ := Aside0.mk (Kd.R_below (by (with_reducible repeat (first | apply Kd.R_alloc | apply Kd.R_drewN | apply Kd.R_drew)); exact (Kd.R_mono (Kd.R_far (p := ⟨gb244, 3, none⟩) (Kd.R_far (p := ⟨gb244, 2, none⟩) (Kd.R_far (p := ⟨gb244, 1, none⟩) (Kd.R_far (p := ⟨gb244, 0, none⟩) (Kd.R_types HO202.out BK244.out (by decide)) (fun _ hk => hk.2) (.slice Ao83 t237.length co83)) (fun _ hk => hk.2) (.int .i64 1000)) (fun _ hk => hk.2) (.int .i64 191)) (fun _ hk => hk.2) (.int .i64 1191)) (fun _ h_ => h_.1))) hb); have n1_ := Aside0.mk (Kd.R_elder' (by (with_reducible repeat (first | apply Kd.R_alloc | apply Kd.R_drewN | apply Kd.R_drew)); exact (Kd.R_mono (Kd.R_far (p := ⟨gb244, 3, none⟩) (Kd.R_far (p := ⟨gb244, 2, none⟩) (Kd.R_far (p := ⟨gb244, 1, none⟩) (Kd.R_far (p := ⟨gb244, 0, none⟩) (Kd.R_types HO205.out BK244.out (by decide)) (fun _ hk => hk.2) (.slice Ao83 t237.length co83)) (fun _ hk => hk.2) (.int .i64 1000)) (fun _ hk => hk.2) (.int .i64 191)) (fun _ hk => hk.2) (.int .i64 1191)) (fun _ h_ => h_.1))) (Kd.R_base ho0) hb); have n2_ := Aside0.mk (Kd.R_below (by (with_reducible repeat (first | apply Kd.R_alloc | apply Kd.R_drewN | apply Kd.R_drew)); exact (Kd.R_mono (Kd.R_far (p := ⟨gb244, 3, none⟩) (Kd.R_far (p := ⟨gb244, 2, none⟩) (Kd.R_far (p := ⟨gb244, 1, none⟩) (Kd.R_far (p := ⟨gb244, 0, none⟩) (Kd.R_types HO227.out BK244.out (by decide)) (fun _ hk => hk.2) (.slice Ao83 t237.length co83)) (fun _ hk => hk.2) (.int .i64 1000)) (fun _ hk => hk.2) (.int .i64 191)) (fun _ hk => hk.2) (.int .i64 1191)) (fun _ h_ => h_.1))) hb); have n3_ := Aside0.mk (Kd.R_below (by (with_reducible repeat (first | apply Kd.R_alloc | apply Kd.R_drewN | apply Kd.R_drew)); exact (Kd.R_mono (Kd.R_far (p := ⟨gb244, 3, none⟩) (Kd.R_far (p := ⟨gb244, 2, none⟩) (Kd.R_far (p := ⟨gb244, 1, none⟩) (Kd.R_far (p := ⟨gb244, 0, none⟩) (Kd.R_types HO230.out BK244.out (by decide)) (fun _ hk => hk.2) (.slice Ao83 t237.length co83)) (fun _ hk => hk.2) (.int .i64 1000)) (fun _ hk => hk.2) (.int .i64 191)) (fun _ hk => hk.2) (.int .i64 1191)) (fun _ h_ => h_.1))) hb); have n4_ := Aside0.mk (Kd.R_below (by (with_reducible repeat (first | apply Kd.R_alloc | apply Kd.R_drewN | apply Kd.R_drew)); exact (Kd.R_mono (Kd.R_far (p := ⟨gb244, 3, none⟩) (Kd.R_far (p := ⟨gb244, 2, none⟩) (Kd.R_far (p := ⟨gb244, 1, none⟩) (Kd.R_far (p := ⟨gb244, 0, none⟩) (Kd.R_types HO236.out BK244.out (by decide)) (fun _ hk => hk.2) (.slice Ao83 t237.length co83)) (fun _ hk => hk.2) (.int .i64 1000)) (fun _ hk => hk.2) (.int .i64 191)) (fun _ hk => hk.2) (.int .i64 1191)) (fun _ h_ => h_.1))) hb); have n5_ := Aside0.mk (Kd.R_elder' (by (with_reducible repeat (first | apply Kd.R_alloc | apply Kd.R_drewN | apply Kd.R_drew)); exact (Kd.R_mono (Kd.R_far (p := ⟨gb244, 3, none⟩) (Kd.R_far (p := ⟨gb244, 2, none⟩) (Kd.R_far (p := ⟨gb244, 1, none⟩) (Kd.R_far (p := ⟨gb244, 0, none⟩) (Kd.R_types HO239.out BK244.out (by decide)) (fun _ hk => hk.2) (.slice Ao83 t237.length co83)) (fun _ hk => hk.2) (.int .i64 1000)) (fun _ hk => hk.2) (.int .i64 191)) (fun _ hk => hk.2) (.int .i64 1191)) (fun _ h_ => h_.1))) (Kd.R_base ho0) hb); have n6_ := Aside0.mk (Kd.R_lower (Kd.R_new' (Kd.R_new' ho0 (Kd.R_lt (by (with_reducible repeat (first | apply Kd.R_alloc | apply Kd.R_drewN | apply Kd.R_drew)); exact (Kd.R_mono (Kd.R_far (p := ⟨gb244, 3, none⟩) (Kd.R_far (p := ⟨gb244, 2, none⟩) (Kd.R_far (p := ⟨gb244, 1, none⟩) (Kd.R_far (p := ⟨gb244, 0, none⟩) (Kd.R_types HO205.out BK244.out (by decide)) (fun _ hk => hk.2) (.slice Ao83 t237.length co83)) (fun _ hk => hk.2) (.int .i64 1000)) (fun _ hk => hk.2) (.int .i64 191)) (fun _ hk => hk.2) (.int .i64 1191)) (fun _ h_ => h_.1))))) (Kd.R_lt (by (with_reducible repeat (first | apply Kd.R_alloc | apply Kd.R_drewN | apply Kd.R_drew)); exact (Kd.R_mono (Kd.R_far (p := ⟨gb244, 3, none⟩) (Kd.R_far (p := ⟨gb244, 2, none⟩) (Kd.R_far (p := ⟨gb244, 1, none⟩) (Kd.R_far (p := ⟨gb244, 0, none⟩) (Kd.R_types HO239.out BK244.out (by decide)) (fun _ hk => hk.2) (.slice Ao83 t237.length co83)) (fun _ hk => hk.2) (.int .i64 1000)) (fun _ hk => hk.2) (.int .i64 191)) (fun _ hk => hk.2) (.int .i64 1191)) (fun _ h_ => h_.1))))) (below_size (hb_ HB))); have n7_ := Aside0.mk (blk_below (g := gb151) (o := .cells #[.int .i64 0, .slice none 0 0, .slice none 0 0] 30 (0, 0)) (by (with_reducible repeat (first | refine blk_drewN ?_ _ | refine blk_drew ?_ | refine blk_alloc ?_ _)); refine blk_far ?_ NB151_244.out _; (with_reducible repeat (first | refine blk_drewN ?_ _ | refine blk_drew ?_ | refine blk_alloc ?_ _)); refine blk_far ?_ NB151_244.out _; (with_reducible repeat (first | refine blk_drewN ?_ _ | refine blk_drew ?_ | refine blk_alloc ?_ _)); refine blk_far ?_ NB151_244.out _; (with_reducible repeat (first | refine blk_drewN ?_ _ | refine blk_drew ?_ | refine blk_alloc ?_ _)); refine blk_far ?_ NB151_244.out _; (with_reducible repeat (first | refine blk_drewN ?_ _ | refine blk_drew ?_ | refine blk_alloc ?_ _)); exact BK151.out) hb); have n8_ := Aside0.mk (blk_below (g := gb159) (o := .cells #[.int .i64 4, .int .i64 7, .int .i64 0, .int .i64 650, .int .i64 7, .int .i64 15, .int .i64 0] 26 (0, 0)) (by (with_reducible repeat (first | refine blk_drewN ?_ _ | refine blk_drew ?_ | refine blk_alloc ?_ _)); refine blk_far ?_ NB159_244.out _; (with_reducible repeat (first | refine blk_drewN ?_ _ | refine blk_drew ?_ | refine blk_alloc ?_ _)); refine blk_far ?_ NB159_244.out _; (with_reducible repeat (first | refine blk_drewN ?_ _ | refine blk_drew ?_ | refine blk_alloc ?_ _)); refine blk_far ?_ NB159_244.out _; (with_reducible repeat (first | refine blk_drewN ?_ _ | refine blk_drew ?_ | refine blk_alloc ?_ _)); refine blk_far ?_ NB159_244.out _; (with_reducible repeat (first | refine blk_drewN ?_ _ | refine blk_drew ?_ | refine blk_alloc ?_ _)); exact BK159.out) hb); have n9_ := Aside0.mk (blk_below (g := gb167) (o := .cells #[.int .i64 2, .int .i64 2, .int .i64 0, .int .i64 1440, .int .i64 40, .int .i64 0, .int .i64 0] 26 (0, 0)) (by (with_reducible repeat (first | refine blk_drewN ?_ _ | refine blk_drew ?_ | refine blk_alloc ?_ _)); refine blk_far ?_ NB167_244.out _; (with_reducible repeat (first | refine blk_drewN ?_ _ | refine blk_drew ?_ | refine blk_alloc ?_ _)); refine blk_far ?_ NB167_244.out _; (with_reducible repeat (first | refine blk_drewN ?_ _ | refine blk_drew ?_ | refine blk_alloc ?_ _)); refine blk_far ?_ NB167_244.out _; (with_reducible repeat (first | refine blk_drewN ?_ _ | refine blk_drew ?_ | refine blk_alloc ?_ _)); refine blk_far ?_ NB167_244.out _; (with_reducible repeat (first | refine blk_drewN ?_ _ | refine blk_drew ?_ | refine blk_alloc ?_ _)); exact BK167.out) hb); have n10_ := Aside0.mk (blk_below (g := gb196) (o := .cells #[.string t192, .slice Ao74 y228.length co74] 24 (0, 0)) (by (with_reducible repeat (first | refine blk_drewN ?_ _ | refine blk_drew ?_ | refine blk_alloc ?_ _)); refine blk_far ?_ NB196_244.out _; (with_reducible repeat (first | refine blk_drewN ?_ _ | refine blk_drew ?_ | refine blk_alloc ?_ _)); refine blk_far ?_ NB196_244.out _; (with_reducible repeat (first | refine blk_drewN ?_ _ | refine blk_drew ?_ | refine blk_alloc ?_ _)); refine blk_far ?_ NB196_244.out _; (with_reducible repeat (first | refine blk_drewN ?_ _ | refine blk_drew ?_ | refine blk_alloc ?_ _)); refine blk_far ?_ NB196_244.out _; (with_reducible repeat (first | refine blk_drewN ?_ _ | refine blk_drew ?_ | refine blk_alloc ?_ _)); exact BK196.out) hb); have n11_ := Aside0.mk (blk_below (g := gb210) (o := .cells #[.slice Ao61 t203.length co61, .int .i64 16802, .int .i64 0, .int .i64 16802] 38 (0, 0)) (by (with_reducible repeat (first | refine blk_drewN ?_ _ | refine blk_drew ?_ | refine blk_alloc ?_ _)); refine blk_far ?_ NB210_244.out _; (with_reducible repeat (first | refine blk_drewN ?_ _ | refine blk_drew ?_ | refine blk_alloc ?_ _)); refine blk_far ?_ NB210_244.out _; (with_reducible repeat (first | refine blk_drewN ?_ _ | refine blk_drew ?_ | refine blk_alloc ?_ _)); refine blk_far ?_ NB210_244.out _; (with_reducible repeat (first | refine blk_drewN ?_ _ | refine blk_drew ?_ | refine blk_alloc ?_ _)); refine blk_far ?_ NB210_244.out _; (with_reducible repeat (first | refine blk_drewN ?_ _ | refine blk_drew ?_ | refine blk_alloc ?_ _)); exact BK210.out) hb); have n12_ := Aside0.mk (blk_below (g := gb244) (o := .cells #[.slice Ao83 t237.length co83, .int .i64 1000, .int .i64 191, .int .i64 1191] 38 (0, 0)) (by (with_reducible repeat (first | refine blk_drewN ?_ _ | refine blk_drew ?_ | refine blk_alloc ?_ _)); refine blk_put (cs := #[.slice Ao83 t237.length co83, .int .i64 1000, .int .i64 191, .int .i64 0]) ?_ 3 _ rfl; (with_reducible repeat (first | refine blk_drewN ?_ _ | refine blk_drew ?_ | refine blk_alloc ?_ _)); refine blk_put (cs := #[.slice Ao83 t237.length co83, .int .i64 1000, .int .i64 0, .int .i64 0]) ?_ 2 _ rfl; (with_reducible repeat (first | refine blk_drewN ?_ _ | refine blk_drew ?_ | refine blk_alloc ?_ _)); refine blk_put (cs := #[.slice Ao83 t237.length co83, .int .i64 0, .int .i64 0, .int .i64 0]) ?_ 1 _ rfl; (with_reducible repeat (first | refine blk_drewN ?_ _ | refine blk_drew ?_ | refine blk_alloc ?_ _)); refine blk_put (cs := #[.slice none 0 0, .int .i64 0, .int .i64 0, .int .i64 0]) ?_ 0 _ rfl; (with_reducible repeat (first | refine blk_drewN ?_ _ | refine blk_drew ?_ | refine blk_alloc ?_ _)); exact BK244.out) hb); have n13_ := Aside0.mk (below_step (hb_ HB) hb); clear HO202; clear HO205; clear HO227; clear HO230; clear HO236; clear HO239; clear BK151; clear BK159; clear BK167; clear BK196; clear BK210; clear BK244; clear HB; have HO202 := n0_; have HO205 := n1_; have HO227 := n2_; have HO230 := n3_; have HO236 := n4_; have HO239 := n5_; have HO247 := n6_; have BK151 := n7_; have BK159 := n8_; have BK167 := n9_; have BK196 := n10_; have BK210 := n11_; have BK244 := n12_; have HB := n13_; clear n0_ n1_ n2_ n3_ n4_ n5_ n6_ n7_ n8_ n9_ n10_ n11_ n12_ n13_; (try clear hb); (try clear hb2); (try clear hk); (try clear hi); (try clear ho0)) | ((with_reducible refine gate_dst (N := 9) rfl ?_); refine box_event ?hg (N := 9) ?hd (cs := #[.slice none 0 0, .int .i64 0, .int .i64 0, .int .i64 0]) (t := 38) ?hr ?_; (case hd => rfl); (case hg => rfl); (case hr => first | (go_simp; done) | (go_simp; rfl)); intro gb252 hg w98 hbox hb; have n0_ := Aside0.mk (Kd.R_below (kr_ HO202) hb); have n1_ := Aside0.mk (Kd.R_below (kr_ HO205) hb); have n2_ := Aside0.mk (Kd.R_below (kr_ HO227) hb); have n3_ := Aside0.mk (Kd.R_below (kr_ HO230) hb); have n4_ := Aside0.mk (Kd.R_below (kr_ HO236) hb); have n5_ := Aside0.mk (Kd.R_below (kr_ HO239) hb); have n6_ := Aside0.mk (Kd.R_below (kr_ HO247) hb); have n7_ := (bb_ BK151 hb); have n8_ := (bb_ BK159 hb); have n9_ := (bb_ BK167 hb); have n10_ := (bb_ BK196 hb); have n11_ := (bb_ BK210 hb); have n12_ := (bb_ BK244 hb); have n13_ := Aside0.mk (below_step (hb_ HB) hb); have n14_ := Aside0.mk (hbox); have n15_ := Aside0.mk ((by rw [hg]; exact (below_size (hb_ HB)) : w.heap.size ≤ gb252)); have n16_ := Aside0.mk ((by rw [hg]; exact (below_size (hb_ HB)) : w.heap.size ≤ gb252)); have n17_ := (nlt_ BK151 hg); have n18_ := (ngt_ BK151 hg); have n19_ := (nlt_ BK159 hg); have n20_ := (ngt_ BK159 hg); have n21_ := (nlt_ BK167 hg); have n22_ := (ngt_ BK167 hg); have n23_ := (nlt_ BK196 hg); have n24_ := (ngt_ BK196 hg); have n25_ := (nlt_ BK210 hg); have n26_ := (ngt_ BK210 hg); have n27_ := (nlt_ BK244 hg); have n28_ := (ngt_ BK244 hg); clear HO202; clear HO205; clear HO227; clear HO230; clear HO236; clear HO239; clear HO247; clear BK151; clear BK159; clear BK167; clear BK196; clear BK210; clear BK244; clear HB; have HO202 := n0_; have HO205 := n1_; have HO227 := n2_; have HO230 := n3_; have HO236 := n4_; have HO239 := n5_; have HO247 := n6_; have BK151 := n7_; have BK159 := n8_; have BK167 := n9_; have BK196 := n10_; have BK210 := n11_; have BK244 := n12_; have HB := n13_; have BK252 := n14_; have GW252 := n15_; have GE252 := n16_; have NB151_252 := n17_; have NB252_151 := n18_; have NB159_252 := n19_; have NB252_159 := n20_; have NB167_252 := n21_; have NB252_167 := n22_; have NB196_252 := n23_; have NB252_196 := n24_; have NB210_252 := n25_; have NB252_210 := n26_; have NB244_252 := n27_; have NB252_244 := n28_; clear n0_ n1_ n2_ n3_ n4_ n5_ n6_ n7_ n8_ n9_ n10_ n11_ n12_ n13_ n14_ n15_ n16_ n17_ n18_ n19_ n20_ n21_ n22_ n23_ n24_ n25_ n26_ n27_ n28_; clear hb hbox hg; obtain ⟨Ao99, co99, eo99⟩ := Kd.R_slice HO247.out; subst eo99; have hnb100 := NB252_151.out; have hnc100 := NB151_252.out; have hnb101 := NB252_159.out; have hnc101 := NB159_252.out; have hnb102 := NB252_167.out; have hnc102 := NB167_252.out; have hnb103 := NB252_196.out; have hnc103 := NB196_252.out; have hnb104 := NB252_210.out; have hnc104 := NB210_252.out; have hnb105 := NB252_244.out; have hnc105 := NB244_252.out; have hcz106_0 : w98.cell? ⟨gb252, 0, none⟩ = some (.slice none 0 0) := bc_ BK252 0; have hcz106_1 : w98.cell? ⟨gb252, 1, none⟩ = some (.int .i64 0) := bc_ BK252 1; have hcz106_2 : w98.cell? ⟨gb252, 2, none⟩ = some (.int .i64 0) := bc_ BK252 2; have hcz106_3 : w98.cell? ⟨gb252, 3, none⟩ = some (.int .i64 0) := bc_ BK252 3; have hfz106_0 := blk_frozen BK252.out 0; have hfz106_1 := blk_frozen BK252.out 1; have hfz106_2 := blk_frozen BK252.out 2; have hfz106_3 := blk_frozen BK252.out 3))
          obtain ⟨w107, hww⟩ : ∃ w_, ((((w98.setCell ⟨gb252, 0, none⟩ (.slice Ao99 t245.length co99)).setCell ⟨gb252, 1, none⟩ (.int .i64 0)).setCell ⟨gb252, 2, none⟩ (.int .i64 0)).setCell ⟨gb252, 3, none⟩ (.int .i64 0)) = w_ := ⟨_, rfl⟩
          have n0_ : Aside0 (Kd.R k50 50 w107 w.heap.size (fun k_ => some k_ ≠ (v235 : Value).ownBlock) v201 t200) := ⟨by rw [← hww]; (with_reducible repeat (first | apply Kd.R_alloc | apply Kd.R_drewN | apply Kd.R_drew)); exact Kd.R_mono (Kd.R_far (p := ⟨gb252, 3, none⟩) (Kd.R_far (p := ⟨gb252, 2, none⟩) (Kd.R_far (p := ⟨gb252, 1, none⟩) (Kd.R_far (p := ⟨gb252, 0, none⟩) (Kd.R_types HO202.out BK252.out (by decide)) (fun _ hk => hk.2) (.slice Ao99 t245.length co99)) (fun _ hk => hk.2) (.int .i64 0)) (fun _ hk => hk.2) (.int .i64 0)) (fun _ hk => hk.2) (.int .i64 0)) (fun _ hk => hk.1)⟩
          have n1_ : Aside0 (Kd.R k48 48 w107 w.heap.size (fun k_ => some k_ ≠ (.slice Ao83 t237.length co83 : Value).ownBlock ∧ some k_ ≠ (.slice Ao99 t245.length co99 : Value).ownBlock) (.slice Ao61 t203.length co61) t203) := ⟨by rw [← hww]; (with_reducible repeat (first | apply Kd.R_alloc | apply Kd.R_drewN | apply Kd.R_drew)); exact Kd.R_mono (Kd.R_far (p := ⟨gb252, 3, none⟩) (Kd.R_far (p := ⟨gb252, 2, none⟩) (Kd.R_far (p := ⟨gb252, 1, none⟩) (Kd.R_far (p := ⟨gb252, 0, none⟩) (Kd.R_types HO205.out BK252.out (by decide)) (fun _ hk => hk.2) (.slice Ao99 t245.length co99)) (fun _ hk => hk.2) (.int .i64 0)) (fun _ hk => hk.2) (.int .i64 0)) (fun _ hk => hk.2) (.int .i64 0)) (fun _ hk => ⟨hk.1.1, hk.1.2⟩)⟩
          have n2_ : Aside0 (Kd.R k26 26 w107 w.heap.size (fun k_ => some k_ ≠ (.slice Ao74 y228.length co74 : Value).ownBlock ∧ k_ ≠ gb159 ∧ k_ ≠ gb167) (.slice Ao73 y225.length co73) y225) := ⟨by rw [← hww]; (with_reducible repeat (first | apply Kd.R_alloc | apply Kd.R_drewN | apply Kd.R_drew)); exact Kd.R_mono (Kd.R_far (p := ⟨gb252, 3, none⟩) (Kd.R_far (p := ⟨gb252, 2, none⟩) (Kd.R_far (p := ⟨gb252, 1, none⟩) (Kd.R_far (p := ⟨gb252, 0, none⟩) (Kd.R_types HO227.out BK252.out (by decide)) (fun _ hk => hk.2) (.slice Ao99 t245.length co99)) (fun _ hk => hk.2) (.int .i64 0)) (fun _ hk => hk.2) (.int .i64 0)) (fun _ hk => hk.2) (.int .i64 0)) (fun _ hk => ⟨hk.1.1, ⟨hk.1.2.1, hk.1.2.2⟩⟩)⟩
          have n3_ : Aside0 (Kd.R k26 26 w107 w.heap.size (fun k_ => some k_ ≠ (.slice Ao73 y225.length co73 : Value).ownBlock ∧ k_ ≠ gb159 ∧ k_ ≠ gb167) (.slice Ao74 y228.length co74) y228) := ⟨by rw [← hww]; (with_reducible repeat (first | apply Kd.R_alloc | apply Kd.R_drewN | apply Kd.R_drew)); exact Kd.R_mono (Kd.R_far (p := ⟨gb252, 3, none⟩) (Kd.R_far (p := ⟨gb252, 2, none⟩) (Kd.R_far (p := ⟨gb252, 1, none⟩) (Kd.R_far (p := ⟨gb252, 0, none⟩) (Kd.R_types HO230.out BK252.out (by decide)) (fun _ hk => hk.2) (.slice Ao99 t245.length co99)) (fun _ hk => hk.2) (.int .i64 0)) (fun _ hk => hk.2) (.int .i64 0)) (fun _ hk => hk.2) (.int .i64 0)) (fun _ hk => ⟨hk.1.1, ⟨hk.1.2.1, hk.1.2.2⟩⟩)⟩
          have n4_ : Aside0 (Kd.R k50 50 w107 w.heap.size (fun k_ => some k_ ≠ (v201 : Value).ownBlock) v235 t234) := ⟨by rw [← hww]; (with_reducible repeat (first | apply Kd.R_alloc | apply Kd.R_drewN | apply Kd.R_drew)); exact Kd.R_mono (Kd.R_far (p := ⟨gb252, 3, none⟩) (Kd.R_far (p := ⟨gb252, 2, none⟩) (Kd.R_far (p := ⟨gb252, 1, none⟩) (Kd.R_far (p := ⟨gb252, 0, none⟩) (Kd.R_types HO236.out BK252.out (by decide)) (fun _ hk => hk.2) (.slice Ao99 t245.length co99)) (fun _ hk => hk.2) (.int .i64 0)) (fun _ hk => hk.2) (.int .i64 0)) (fun _ hk => hk.2) (.int .i64 0)) (fun _ hk => hk.1)⟩
          have n5_ : Aside0 (Kd.R k48 48 w107 w.heap.size (fun k_ => some k_ ≠ (.slice Ao61 t203.length co61 : Value).ownBlock ∧ some k_ ≠ (.slice Ao99 t245.length co99 : Value).ownBlock) (.slice Ao83 t237.length co83) t237) := ⟨by rw [← hww]; (with_reducible repeat (first | apply Kd.R_alloc | apply Kd.R_drewN | apply Kd.R_drew)); exact Kd.R_mono (Kd.R_far (p := ⟨gb252, 3, none⟩) (Kd.R_far (p := ⟨gb252, 2, none⟩) (Kd.R_far (p := ⟨gb252, 1, none⟩) (Kd.R_far (p := ⟨gb252, 0, none⟩) (Kd.R_types HO239.out BK252.out (by decide)) (fun _ hk => hk.2) (.slice Ao99 t245.length co99)) (fun _ hk => hk.2) (.int .i64 0)) (fun _ hk => hk.2) (.int .i64 0)) (fun _ hk => hk.2) (.int .i64 0)) (fun _ hk => ⟨hk.1.1, hk.1.2⟩)⟩
          have n6_ : Aside0 (Kd.R k48 48 w107 w.heap.size (fun k_ => some k_ ≠ (.slice Ao61 t203.length co61 : Value).ownBlock ∧ some k_ ≠ (.slice Ao83 t237.length co83 : Value).ownBlock) (.slice Ao99 t245.length co99) t245) := ⟨by rw [← hww]; (with_reducible repeat (first | apply Kd.R_alloc | apply Kd.R_drewN | apply Kd.R_drew)); exact Kd.R_mono (Kd.R_far (p := ⟨gb252, 3, none⟩) (Kd.R_far (p := ⟨gb252, 2, none⟩) (Kd.R_far (p := ⟨gb252, 1, none⟩) (Kd.R_far (p := ⟨gb252, 0, none⟩) (Kd.R_types HO247.out BK252.out (by decide)) (fun _ hk => hk.2) (.slice Ao99 t245.length co99)) (fun _ hk => hk.2) (.int .i64 0)) (fun _ hk => hk.2) (.int .i64 0)) (fun _ hk => hk.2) (.int .i64 0)) (fun _ hk => ⟨hk.1.1.2, hk.1.2⟩)⟩
          have n7_ := bf_ BK151 hww
          have n8_ := bf_ BK159 hww
          have n9_ := bf_ BK167 hww
          have n10_ := bf_ BK196 hww
          have n11_ := bf_ BK210 hww
          have n12_ := bf_ BK244 hww
          have n13_ : Aside0 (w107.heap[gb252]? = some (.cells #[.slice Ao99 t245.length co99, .int .i64 0, .int .i64 0, .int .i64 0] 38 (0, 0))) := ⟨by rw [← hww]; (with_reducible repeat (first | refine blk_drewN ?_ _ | refine blk_drew ?_ | refine blk_alloc ?_ _)); refine blk_put (cs := #[.slice Ao99 t245.length co99, .int .i64 0, .int .i64 0, .int .i64 0]) ?_ 3 _ rfl; (with_reducible repeat (first | refine blk_drewN ?_ _ | refine blk_drew ?_ | refine blk_alloc ?_ _)); refine blk_put (cs := #[.slice Ao99 t245.length co99, .int .i64 0, .int .i64 0, .int .i64 0]) ?_ 2 _ rfl; (with_reducible repeat (first | refine blk_drewN ?_ _ | refine blk_drew ?_ | refine blk_alloc ?_ _)); refine blk_put (cs := #[.slice Ao99 t245.length co99, .int .i64 0, .int .i64 0, .int .i64 0]) ?_ 1 _ rfl; (with_reducible repeat (first | refine blk_drewN ?_ _ | refine blk_drew ?_ | refine blk_alloc ?_ _)); refine blk_put (cs := #[.slice none 0 0, .int .i64 0, .int .i64 0, .int .i64 0]) ?_ 0 _ rfl; (with_reducible repeat (first | refine blk_drewN ?_ _ | refine blk_drew ?_ | refine blk_alloc ?_ _)); exact BK252.out⟩
          have n14_ := bw_ HB hww
          (try clear HO202)
          (try clear HO205)
          (try clear HO227)
          (try clear HO230)
          (try clear HO236)
          (try clear HO239)
          (try clear HO247)
          (try clear BK151)
          (try clear BK159)
          (try clear BK167)
          (try clear BK196)
          (try clear BK210)
          (try clear BK244)
          (try clear BK252)
          (try clear HB)
          rw [hww]
          clear hww
          have HO202 := n0_
          have HO205 := n1_
          have HO227 := n2_
          have HO230 := n3_
          have HO236 := n4_
          have HO239 := n5_
          have HO247 := n6_
          have BK151 := n7_
          have BK159 := n8_
          have BK167 := n9_
          have BK196 := n10_
          have BK210 := n11_
          have BK244 := n12_
          have BK252 := n13_
          have HB := n14_
          clear n0_ n1_ n2_ n3_ n4_ n5_ n6_ n7_ n8_ n9_ n10_ n11_ n12_ n13_ n14_
          have n0_ := Aside0.mk (Kd.R_drew HO202.out)
          have n1_ := Aside0.mk (Kd.R_drew HO205.out)
          have n2_ := Aside0.mk (Kd.R_drew HO227.out)
          have n3_ := Aside0.mk (Kd.R_drew HO230.out)
          have n4_ := Aside0.mk (Kd.R_drew HO236.out)
          have n5_ := Aside0.mk (Kd.R_drew HO239.out)
          have n6_ := Aside0.mk (Kd.R_drew HO247.out)
          have n7_ := Aside0.mk (blk_drew BK151.out)
          have n8_ := Aside0.mk (blk_drew BK159.out)
          have n9_ := Aside0.mk (blk_drew BK167.out)
          have n10_ := Aside0.mk (blk_drew BK196.out)
          have n11_ := Aside0.mk (blk_drew BK210.out)
          have n12_ := Aside0.mk (blk_drew BK244.out)
          have n13_ := Aside0.mk (blk_drew BK252.out)
          have n14_ := Aside0.mk (below_drew1 HB.out)
          clear HO202
          clear HO205
          clear HO227
          clear HO230
          clear HO236
          clear HO239
          clear HO247
          clear BK151
          clear BK159
          clear BK167
          clear BK196
          clear BK210
          clear BK244
          clear BK252
          clear HB
          have HO202 := n0_
          have HO205 := n1_
          have HO227 := n2_
          have HO230 := n3_
          have HO236 := n4_
          have HO239 := n5_
          have HO247 := n6_
          have BK151 := n7_
          have BK159 := n8_
          have BK167 := n9_
          have BK196 := n10_
          have BK210 := n11_
          have BK244 := n12_
          have BK252 := n13_
          have HB := n14_
          clear n0_ n1_ n2_ n3_ n4_ n5_ n6_ n7_ n8_ n9_ n10_ n11_ n12_ n13_ n14_
          refine start_ (n := 9) (S := fun w' => w'.cell? ⟨gb159, 0, none⟩ = some (.int .i64 4) ∧ w'.cell? ⟨gb159, 1, none⟩ = some (.int .i64 7) ∧ w'.cell? ⟨gb159, 2, none⟩ = some (.int .i64 0) ∧ w'.cell? ⟨gb159, 3, none⟩ = some (.int .i64 650) ∧ w'.cell? ⟨gb159, 4, none⟩ = some (.int .i64 7) ∧ w'.cell? ⟨gb159, 5, none⟩ = some (.int .i64 15) ∧ w'.cell? ⟨gb159, 6, none⟩ = some (.int .i64 0) ∧ w'.cell? ⟨gb151, 0, none⟩ = some (.int .i64 0) ∧ w'.cell? ⟨gb151, 1, none⟩ = some (.slice none 0 0) ∧ w'.cell? ⟨gb151, 2, none⟩ = some (.slice none 0 0)) (ds := []) #[false, false, false, false, false, false, false, false, false] (by kernel_rfl) rfl rfl ⟨bc_ BK159 0, bc_ BK159 1, bc_ BK159 2, bc_ BK159 3, bc_ BK159 4, bc_ BK159 5, bc_ BK159 6, bc_ BK151 0, bc_ BK151 1, bc_ BK151 2⟩ (fun hHeld => ?_); refine with_tabW chargeparklaw33_head.tab11 chargeparklaw33_head.bits11 (fun HT_ HW_ => ?_)
          generalize w107.drew = w108 at HO202 HO205 HO227 HO230 HO236 HO239 HO247 BK151 BK159 BK167 BK196 BK210 BK244 BK252 HB hHeld ⊢
          refine take_ (i := 0) (N := some 55) (v := ?_) (a' := ?_) #[true, false, false, false, false, false, false, false, false] rfl rfl (take_ofW HT_.out HW_.out (by kernel_rfl)) (fun _ _ _ h => h) (Or.inl ⟨by rfl, ?_⟩) hHeld ?_ ?_
          rotate_left
          ·rintro w' ⟨s0, s1, s2, s3, s4, s5, s6, s7, s8, s9⟩
           go_simp
           with_reducible rfl
          rotate_left
          ·simp only [Act.put, List.setIfInBounds_toArray, List.set_cons_zero, List.set_cons_succ, i64_w, i32_w]
           rfl
          refine take_ (i := 1) (N := some 56) (v := ?_) (a' := ?_) #[true, true, false, false, false, false, false, false, false] rfl rfl (take_ofW HT_.out HW_.out (by kernel_rfl)) (fun _ _ _ h => h) (Or.inl ⟨by rfl, ?_⟩) hHeld ?_ ?_
          rotate_left
          ·rintro w' ⟨s0, s1, s2, s3, s4, s5, s6, s7, s8, s9⟩
           go_simp
           with_reducible rfl
          rotate_left
          ·simp only [Act.put, List.setIfInBounds_toArray, List.set_cons_zero, List.set_cons_succ, i64_w, i32_w]
           rfl
          refine one_ (i := 2) (N := some 57) #[true, true, true, false, false, false, false, false, false] rfl rfl (one_of HT_.out (by kernel_rfl)) (by decide) (fun K hK => ?_)
          refine goes_ Try.func55 (by kernel_rfl) rfl #[] (by rfl) rfl rfl mp_ ?_
          with_reducible refine (chargeparklaw33_example.calls  600 660 640 t256 _ A15.out).mono ?_
          rintro e w109 ⟨v257, rfl, ho0, hb⟩
          refine ⟨_, rfl, ?_⟩
          have n0_ := Aside0.mk (Kd.R_elder' (kr_ HO202) (Kd.R_base ho0) hb)
          have n1_ := Aside0.mk (Kd.R_below (kr_ HO205) hb)
          have n2_ := Aside0.mk (Kd.R_below (kr_ HO227) hb)
          have n3_ := Aside0.mk (Kd.R_below (kr_ HO230) hb)
          have n4_ := Aside0.mk (Kd.R_elder' (kr_ HO236) (Kd.R_base ho0) hb)
          have n5_ := Aside0.mk (Kd.R_below (kr_ HO239) hb)
          have n6_ := Aside0.mk (Kd.R_below (kr_ HO247) hb)
          have n7_ := Aside0.mk (Kd.R_lower (Kd.R_new' (Kd.R_new' ho0 (Kd.R_lt (kr_ HO202))) (Kd.R_lt (kr_ HO236))) (below_size (hb_ HB)))
          have n8_ := (bb_ BK151 hb)
          have n9_ := (bb_ BK159 hb)
          have n10_ := (bb_ BK167 hb)
          have n11_ := (bb_ BK196 hb)
          have n12_ := (bb_ BK210 hb)
          have n13_ := (bb_ BK244 hb)
          have n14_ := (bb_ BK252 hb)
          have n15_ := Aside0.mk (below_step (hb_ HB) hb)
          clear HO202
          clear HO205
          clear HO227
          clear HO230
          clear HO236
          clear HO239
          clear HO247
          clear BK151
          clear BK159
          clear BK167
          clear BK196
          clear BK210
          clear BK244
          clear BK252
          clear HB
          have HO202 := n0_
          have HO205 := n1_
          have HO227 := n2_
          have HO230 := n3_
          have HO236 := n4_
          have HO239 := n5_
          have HO247 := n6_
          have HO258 := n7_
          have BK151 := n8_
          have BK159 := n9_
          have BK167 := n10_
          have BK196 := n11_
          have BK210 := n12_
          have BK244 := n13_
          have BK252 := n14_
          have HB := n15_
          clear n0_ n1_ n2_ n3_ n4_ n5_ n6_ n7_ n8_ n9_ n10_ n11_ n12_ n13_ n14_ n15_
          (try clear hb)
          (try clear hb2)
          (try clear hk)
          (try clear hi)
          (try clear ho0)
          obtain ⟨Ao110, co110, eo110⟩ := Kd.R_slice HO258.out
          (first | subst eo110 | (injection eo110 with f1_ f2_ f3_; have f4_ := f1_.symm; have f5_ := f3_.symm; clear f1_ f2_ f3_; subst f4_; subst f5_))
          refine hK.out _ _ ⟨bc_ BK159 0, bc_ BK159 1, bc_ BK159 2, bc_ BK159 3, bc_ BK159 4, bc_ BK159 5, bc_ BK159 6, bc_ BK151 0, bc_ BK151 1, bc_ BK151 2⟩ (fun hHeld => ?_)
          clear hK K
          refine norm_ (a' := ?_) ?_ ?_
          rotate_left
          ·show Act.put _ (some 57) _ = _
           simp only [Act.put, List.setIfInBounds_toArray, List.set_cons_zero, List.set_cons_succ, i64_w, i32_w]
           rfl
          refine one_ (i := 3) (N := some 58) #[true, true, true, true, false, false, false, false, false] rfl rfl (one_of HT_.out (by kernel_rfl)) (by decide) (fun K hK => ?_)
          refine goes_ Try.func29 (by kernel_rfl) rfl #[.agg #[.int .i64 4, .int .i64 7, .int .i64 0, .int .i64 650, .int .i64 7, .int .i64 15, .int .i64 0], .agg #[.int .i64 0, .slice none 0 0, .slice none 0 0], .agg #[.int .i64 600, .int .i64 660, .int .i64 640, .slice Ao110 t256.length co110]] (by rfl) rfl rfl mp_ ?_
          refine (bill_Line.calls 4 7 0 650 7 15 0 0 _ _ ([] : List (S99)) _ _ ([] : List Int) 600 660 640 _ _ t256 7 0 _ ?side1 ?side2 ?side3 ?side4 ?side5 ?side6 A16.out).mono ?_
          (case side1 => exact Kd.C_nil _ _)
          (case side2 => exact Nat.le_refl _)
          (case side3 => exact Kd.C_nil _ _)
          (case side4 => exact Nat.le_refl _)
          (case side5 => repeat (first | exact (Kd.R_reads' HO258.out).2.2 | (with_reducible refine Kd.C_alloc ?_ _) | (with_reducible refine Kd.C_drewN ?_ _) | (with_reducible refine Kd.C_drew ?_)))
          (case side6 => exact (Kd.R_reads' HO258.out).2.1)
          rintro e w111 ⟨rfl, hb⟩
          refine ⟨_, rfl, ?_⟩
          have n0_ := Aside0.mk (Kd.R_below (kr_ HO202) hb)
          have n1_ := Aside0.mk (Kd.R_below (kr_ HO205) hb)
          have n2_ := Aside0.mk (Kd.R_below (kr_ HO227) hb)
          have n3_ := Aside0.mk (Kd.R_below (kr_ HO230) hb)
          have n4_ := Aside0.mk (Kd.R_below (kr_ HO236) hb)
          have n5_ := Aside0.mk (Kd.R_below (kr_ HO239) hb)
          have n6_ := Aside0.mk (Kd.R_below (kr_ HO247) hb)
          have n7_ := Aside0.mk (Kd.R_below (kr_ HO258) hb)
          have n8_ := (bb_ BK151 hb)
          have n9_ := (bb_ BK159 hb)
          have n10_ := (bb_ BK167 hb)
          have n11_ := (bb_ BK196 hb)
          have n12_ := (bb_ BK210 hb)
          have n13_ := (bb_ BK244 hb)
          have n14_ := (bb_ BK252 hb)
          have n15_ := Aside0.mk (below_step (hb_ HB) hb)
          clear HO202
          clear HO205
          clear HO227
          clear HO230
          clear HO236
          clear HO239
          clear HO247
          clear HO258
          clear BK151
          clear BK159
          clear BK167
          clear BK196
          clear BK210
          clear BK244
          clear BK252
          clear HB
          have HO202 := n0_
          have HO205 := n1_
          have HO227 := n2_
          have HO230 := n3_
          have HO236 := n4_
          have HO239 := n5_
          have HO247 := n6_
          have HO258 := n7_
          have BK151 := n8_
          have BK159 := n9_
          have BK167 := n10_
          have BK196 := n11_
          have BK210 := n12_
          have BK244 := n13_
          have BK252 := n14_
          have HB := n15_
          clear n0_ n1_ n2_ n3_ n4_ n5_ n6_ n7_ n8_ n9_ n10_ n11_ n12_ n13_ n14_ n15_
          (try clear hb)
          (try clear hb2)
          (try clear hk)
          (try clear hi)
          refine hK.out _ _ ⟨bc_ BK159 0, bc_ BK159 1, bc_ BK159 2, bc_ BK159 3, bc_ BK159 4, bc_ BK159 5, bc_ BK159 6, bc_ BK151 0, bc_ BK151 1, bc_ BK151 2⟩ (fun hHeld => ?_)
          clear hK K
          refine norm_ (a' := ?_) ?_ ?_
          rotate_left
          ·show Act.put _ (some 58) _ = _
           simp only [Act.put, List.setIfInBounds_toArray, List.set_cons_zero, List.set_cons_succ, i64_w, i32_w]
           rfl
          refine pure_ (i := 4) (N := some 54) (v := ?_) (a' := ?_) #[true, true, true, true, true, false, false, false, false] rfl rfl (any_of HT_.out (by kernel_rfl)) (fun _ _ _ h => h) (Or.inl ⟨by rfl, ?_⟩) ?_ ?_
          rotate_left
          ·intro w'
           go_simp
           with_reducible rfl
          rotate_left
          ·simp only [Act.put, List.setIfInBounds_toArray, List.set_cons_zero, List.set_cons_succ, i64_w, i32_w]
           rfl
          refine pure_ (i := 5) (N := some 59) (v := ?_) (a' := ?_) #[true, true, true, true, true, true, false, false, false] rfl rfl (any_of HT_.out (by kernel_rfl)) (fun _ _ _ h => h) (Or.inl ⟨by rfl, ?_⟩) ?_ ?_
          rotate_left
          ·intro w'
           go_simp
           with_reducible rfl
          rotate_left
          ·simp only [Act.put, List.setIfInBounds_toArray, List.set_cons_zero, List.set_cons_succ, i64_w, i32_w]
           rfl
          refine pure_ (i := 6) (N := some 60) (v := ?_) (a' := ?_) #[true, true, true, true, true, true, true, false, false] rfl rfl (any_of HT_.out (by kernel_rfl)) (fun _ _ _ h => h) (Or.inl ⟨by rfl, ?_⟩) ?_ ?_
          rotate_left
          ·intro w'
           go_simp
           with_reducible rfl
          rotate_left
          ·simp only [Act.put, List.setIfInBounds_toArray, List.set_cons_zero, List.set_cons_succ, i64_w, i32_w]
           rfl
          refine pure_ (i := 7) (N := some 11) (v := ?_) (a' := ?_) #[true, true, true, true, true, true, true, true, false] rfl rfl (any_of HT_.out (by kernel_rfl)) (fun _ _ _ h => h) (Or.inl ⟨by rfl, ?_⟩) ?_ ?_
          rotate_left
          ·intro w'
           go_simp
           with_reducible rfl
          rotate_left
          ·simp only [Act.put, List.setIfInBounds_toArray, List.set_cons_zero, List.set_cons_succ, i64_w, i32_w]
           rfl
          refine pure_ (i := 8) (N := some 12) (v := ?_) (a' := ?_) #[true, true, true, true, true, true, true, true, true] rfl rfl (any_of HT_.out (by kernel_rfl)) (fun _ _ _ h => h) (Or.inl ⟨by rfl, ?_⟩) ?_ ?_
          rotate_left
          ·intro w'
           go_simp
           with_reducible rfl
          rotate_left
          ·simp only [Act.put, List.setIfInBounds_toArray, List.set_cons_zero, List.set_cons_succ, i64_w, i32_w]
           rfl
          refine done_ (done_of HT_.out (by kernel_rfl)) ?_
          try go_wp2_with (first | (go_at_call 55; (with_reducible refine (chargeparklaw33_example.calls  600 660 640 t264 _ A22.out).mono ?_); rintro e w112 ⟨v265, rfl, ho0, hb⟩; have n0_ := Aside0.mk (Kd.R_elder' (kr_ HO202) (Kd.R_base ho0) hb); have n1_ := Aside0.mk (Kd.R_below (kr_ HO205) hb); have n2_ := Aside0.mk (Kd.R_below (kr_ HO227) hb); have n3_ := Aside0.mk (Kd.R_below (kr_ HO230) hb); have n4_ := Aside0.mk (Kd.R_elder' (kr_ HO236) (Kd.R_base ho0) hb); have n5_ := Aside0.mk (Kd.R_below (kr_ HO239) hb); have n6_ := Aside0.mk (Kd.R_below (kr_ HO247) hb); have n7_ := Aside0.mk (Kd.R_elder' (kr_ HO258) (Kd.R_base ho0) hb); have n8_ := Aside0.mk (Kd.R_lower (Kd.R_new' (Kd.R_new' (Kd.R_new' ho0 (Kd.R_lt (kr_ HO202))) (Kd.R_lt (kr_ HO236))) (Kd.R_lt (kr_ HO258))) (below_size (hb_ HB))); have n9_ := (bb_ BK151 hb); have n10_ := (bb_ BK159 hb); have n11_ := (bb_ BK167 hb); have n12_ := (bb_ BK196 hb); have n13_ := (bb_ BK210 hb); have n14_ := (bb_ BK244 hb); have n15_ := (bb_ BK252 hb); have n16_ := Aside0.mk (below_step (hb_ HB) hb); clear HO202; clear HO205; clear HO227; clear HO230; clear HO236; clear HO239; clear HO247; clear HO258; clear BK151; clear BK159; clear BK167; clear BK196; clear BK210; clear BK244; clear BK252; clear HB; have HO202 := n0_; have HO205 := n1_; have HO227 := n2_; have HO230 := n3_; have HO236 := n4_; have HO239 := n5_; have HO247 := n6_; have HO258 := n7_; have HO266 := n8_; have BK151 := n9_; have BK159 := n10_; have BK167 := n11_; have BK196 := n12_; have BK210 := n13_; have BK244 := n14_; have BK252 := n15_; have HB := n16_; clear n0_ n1_ n2_ n3_ n4_ n5_ n6_ n7_ n8_ n9_ n10_ n11_ n12_ n13_ n14_ n15_ n16_; (try clear hb); (try clear hb2); (try clear hk); (try clear hi); (try clear ho0); obtain ⟨Ao113, co113, eo113⟩ := Kd.R_slice HO266.out; subst eo113) | (go_at_call 32; (with_reducible refine (bill_Valid.calls 100 600 660 640 _ _ t264 true _ ?side1 ?side2 A23.out).mono ?_); (case side1 => repeat (first | exact (Kd.R_reads' HO266.out).2.2 | (with_reducible refine Kd.C_alloc ?_ _) | (with_reducible refine Kd.C_drewN ?_ _) | (with_reducible refine Kd.C_drew ?_))); (case side2 => exact (Kd.R_reads' HO266.out).2.1); rintro e w114 ⟨rfl, hb⟩; have n0_ := Aside0.mk (Kd.R_below (kr_ HO202) hb); have n1_ := Aside0.mk (Kd.R_below (kr_ HO205) hb); have n2_ := Aside0.mk (Kd.R_below (kr_ HO227) hb); have n3_ := Aside0.mk (Kd.R_below (kr_ HO230) hb); have n4_ := Aside0.mk (Kd.R_below (kr_ HO236) hb); have n5_ := Aside0.mk (Kd.R_below (kr_ HO239) hb); have n6_ := Aside0.mk (Kd.R_below (kr_ HO247) hb); have n7_ := Aside0.mk (Kd.R_below (kr_ HO258) hb); have n8_ := Aside0.mk (Kd.R_below (kr_ HO266) hb); have n9_ := (bb_ BK151 hb); have n10_ := (bb_ BK159 hb); have n11_ := (bb_ BK167 hb); have n12_ := (bb_ BK196 hb); have n13_ := (bb_ BK210 hb); have n14_ := (bb_ BK244 hb); have n15_ := (bb_ BK252 hb); have n16_ := Aside0.mk (below_step (hb_ HB) hb); clear HO202; clear HO205; clear HO227; clear HO230; clear HO236; clear HO239; clear HO247; clear HO258; clear HO266; clear BK151; clear BK159; clear BK167; clear BK196; clear BK210; clear BK244; clear BK252; clear HB; have HO202 := n0_; have HO205 := n1_; have HO227 := n2_; have HO230 := n3_; have HO236 := n4_; have HO239 := n5_; have HO247 := n6_; have HO258 := n7_; have HO266 := n8_; have BK151 := n9_; have BK159 := n10_; have BK167 := n11_; have BK196 := n12_; have BK210 := n13_; have BK244 := n14_; have BK252 := n15_; have HB := n16_; clear n0_ n1_ n2_ n3_ n4_ n5_ n6_ n7_ n8_ n9_ n10_ n11_ n12_ n13_ n14_ n15_ n16_; (try clear hb); (try clear hb2); (try clear hk); (try clear hi)) | (go_at_call 32; (refine (bill_Valid.calls 100 0 0 0 _ _ ([] : List (S50)) false _ ?side1 ?side2 A25.out).mono ?_); (case side1 => exact Kd.C_nil _ _); (case side2 => exact Nat.le_refl _); rintro e w115 ⟨rfl, hb⟩; have n0_ := Aside0.mk (Kd.R_below (kr_ HO202) hb); have n1_ := Aside0.mk (Kd.R_below (kr_ HO205) hb); have n2_ := Aside0.mk (Kd.R_below (kr_ HO227) hb); have n3_ := Aside0.mk (Kd.R_below (kr_ HO230) hb); have n4_ := Aside0.mk (Kd.R_below (kr_ HO236) hb); have n5_ := Aside0.mk (Kd.R_below (kr_ HO239) hb); have n6_ := Aside0.mk (Kd.R_below (kr_ HO247) hb); have n7_ := Aside0.mk (Kd.R_below (kr_ HO258) hb); have n8_ := Aside0.mk (Kd.R_below (kr_ HO266) hb); have n9_ := (bb_ BK151 hb); have n10_ := (bb_ BK159 hb); have n11_ := (bb_ BK167 hb); have n12_ := (bb_ BK196 hb); have n13_ := (bb_ BK210 hb); have n14_ := (bb_ BK244 hb); have n15_ := (bb_ BK252 hb); have n16_ := Aside0.mk (below_step (hb_ HB) hb); clear HO202; clear HO205; clear HO227; clear HO230; clear HO236; clear HO239; clear HO247; clear HO258; clear HO266; clear BK151; clear BK159; clear BK167; clear BK196; clear BK210; clear BK244; clear BK252; clear HB; have HO202 := n0_; have HO205 := n1_; have HO227 := n2_; have HO230 := n3_; have HO236 := n4_; have HO239 := n5_; have HO247 := n6_; have HO258 := n7_; have HO266 := n8_; have BK151 := n9_; have BK159 := n10_; have BK167 := n11_; have BK196 := n12_; have BK210 := n13_; have BK244 := n14_; have BK252 := n15_; have HB := n16_; clear n0_ n1_ n2_ n3_ n4_ n5_ n6_ n7_ n8_ n9_ n10_ n11_ n12_ n13_ n14_ n15_ n16_; (try clear hb); (try clear hb2); (try clear hk); (try clear hi)) | ((with_reducible refine gate_dst (N := 93) rfl ?_); refine Kd.R_lit k48 _ 48 ?hg (N := 93) ?hd (xs := ([(⟨0, 100⟩ : S48), (⟨1, 16665⟩ : S48), (⟨2, 30⟩ : S48), (⟨3, 7⟩ : S48), (⟨4, 0⟩ : S48)] : List (S48))) (inner := [.int .i64 0, .int .i64 100, .int .i64 1, .int .i64 16665, .int .i64 2, .int .i64 30, .int .i64 3, .int .i64 7, .int .i64 4, .int .i64 0]) (ok := fun _ => True) (okp := fun _ => True) ?hr ?hp (fun _ hk => hk) trivial (Below.refl _ _) (Nat.le_refl _) (by simp) ?_; (case hd => rfl); (case hg => rfl); (case hr => first | (go_simp; done) | (go_simp; rfl)); (case hp => exact (Reps.c2 (show Kd.M k48 _ _ _ (⟨0, 100⟩ : S48) [.int .i64 0, .int .i64 100] from (k48_mkM _ _ _ (⟨0, 100⟩ : S48) )) (Reps.c2 (show Kd.M k48 _ _ _ (⟨1, 16665⟩ : S48) [.int .i64 1, .int .i64 16665] from (k48_mkM _ _ _ (⟨1, 16665⟩ : S48) )) (Reps.c2 (show Kd.M k48 _ _ _ (⟨2, 30⟩ : S48) [.int .i64 2, .int .i64 30] from (k48_mkM _ _ _ (⟨2, 30⟩ : S48) )) (Reps.c2 (show Kd.M k48 _ _ _ (⟨3, 7⟩ : S48) [.int .i64 3, .int .i64 7] from (k48_mkM _ _ _ (⟨3, 7⟩ : S48) )) (Reps.c2 (show Kd.M k48 _ _ _ (⟨4, 0⟩ : S48) [.int .i64 4, .int .i64 0] from (k48_mkM _ _ _ (⟨4, 0⟩ : S48) )) (Reps.none _ _))))))); intro v270 w116 ho117 hb hg_ hnew_; clear hg_ hnew_; (first | rw [← Ny269.out] at ho117 | (simp only [Int.reduceToNat] at ho117; rw [← Ny269.out] at ho117)); have n0_ := Aside0.mk (Kd.R_below (kr_ HO202) hb); have n1_ := Aside0.mk (Kd.R_elder' (kr_ HO205) (Kd.R_base ho117) hb); have n2_ := Aside0.mk (Kd.R_below (kr_ HO227) hb); have n3_ := Aside0.mk (Kd.R_below (kr_ HO230) hb); have n4_ := Aside0.mk (Kd.R_below (kr_ HO236) hb); have n5_ := Aside0.mk (Kd.R_elder' (kr_ HO239) (Kd.R_base ho117) hb); have n6_ := Aside0.mk (Kd.R_elder' (kr_ HO247) (Kd.R_base ho117) hb); have n7_ := Aside0.mk (Kd.R_below (kr_ HO258) hb); have n8_ := Aside0.mk (Kd.R_below (kr_ HO266) hb); have n9_ := Aside0.mk (Kd.R_lower (Kd.R_new' (Kd.R_new' (Kd.R_new' ho117 (Kd.R_lt (kr_ HO205))) (Kd.R_lt (kr_ HO239))) (Kd.R_lt (kr_ HO247))) (below_size (hb_ HB))); have n10_ := (bb_ BK151 hb); have n11_ := (bb_ BK159 hb); have n12_ := (bb_ BK167 hb); have n13_ := (bb_ BK196 hb); have n14_ := (bb_ BK210 hb); have n15_ := (bb_ BK244 hb); have n16_ := (bb_ BK252 hb); have n17_ := Aside0.mk (below_step (hb_ HB) hb); clear HO202; clear HO205; clear HO227; clear HO230; clear HO236; clear HO239; clear HO247; clear HO258; clear HO266; clear BK151; clear BK159; clear BK167; clear BK196; clear BK210; clear BK244; clear BK252; clear HB; have HO202 := n0_; have HO205 := n1_; have HO227 := n2_; have HO230 := n3_; have HO236 := n4_; have HO239 := n5_; have HO247 := n6_; have HO258 := n7_; have HO266 := n8_; have HO271 := n9_; have BK151 := n10_; have BK159 := n11_; have BK167 := n12_; have BK196 := n13_; have BK210 := n14_; have BK244 := n15_; have BK252 := n16_; have HB := n17_; clear n0_ n1_ n2_ n3_ n4_ n5_ n6_ n7_ n8_ n9_ n10_ n11_ n12_ n13_ n14_ n15_ n16_ n17_; clear hb ho117; have hnb118 := NB210_159.out; have hnc118 := NB159_210.out; have hnb119 := NB210_167.out; have hnc119 := NB167_210.out; have hnb120 := NB210_244.out; have hnc120 := NB244_210.out; have hcz121_0 : w116.cell? ⟨gb210, 0, none⟩ = some (.slice Ao61 t203.length co61) := bc_ BK210 0; have hcz121_1 : w116.cell? ⟨gb210, 1, none⟩ = some (.int .i64 16802) := bc_ BK210 1; have hcz121_2 : w116.cell? ⟨gb210, 2, none⟩ = some (.int .i64 0) := bc_ BK210 2; have hcz121_3 : w116.cell? ⟨gb210, 3, none⟩ = some (.int .i64 16802) := bc_ BK210 3; have hfz121_0 := blk_frozen BK210.out 0; have hfz121_1 := blk_frozen BK210.out 1; have hfz121_2 := blk_frozen BK210.out 2; have hfz121_3 := blk_frozen BK210.out 3; obtain ⟨Ao122, co122, eo122⟩ := Kd.R_slice HO271.out; subst eo122) | (go_at_call 31; (with_reducible refine (chargeparkref33_Same.calls 100 _ _ t203 16802 0 16802 _ _ y269 16802 0 16802 true _ ?side1 ?side2 ?side3 ?side4 A27.out).mono ?_); (case side1 => repeat (first | exact (Kd.R_reads' HO205.out).2.2 | (with_reducible refine Kd.C_alloc ?_ _) | (with_reducible refine Kd.C_drewN ?_ _) | (with_reducible refine Kd.C_drew ?_))); (case side2 => exact (Kd.R_reads' HO205.out).2.1); (case side3 => repeat (first | exact (Kd.R_reads' HO271.out).2.2 | (with_reducible refine Kd.C_alloc ?_ _) | (with_reducible refine Kd.C_drewN ?_ _) | (with_reducible refine Kd.C_drew ?_))); (case side4 => exact (Kd.R_reads' HO271.out).2.1); rintro e w123 ⟨rfl, hb⟩; have n0_ := Aside0.mk (Kd.R_below (kr_ HO202) hb); have n1_ := Aside0.mk (Kd.R_below (kr_ HO205) hb); have n2_ := Aside0.mk (Kd.R_below (kr_ HO227) hb); have n3_ := Aside0.mk (Kd.R_below (kr_ HO230) hb); have n4_ := Aside0.mk (Kd.R_below (kr_ HO236) hb); have n5_ := Aside0.mk (Kd.R_below (kr_ HO239) hb); have n6_ := Aside0.mk (Kd.R_below (kr_ HO247) hb); have n7_ := Aside0.mk (Kd.R_below (kr_ HO258) hb); have n8_ := Aside0.mk (Kd.R_below (kr_ HO266) hb); have n9_ := Aside0.mk (Kd.R_below (kr_ HO271) hb); have n10_ := (bb_ BK151 hb); have n11_ := (bb_ BK159 hb); have n12_ := (bb_ BK167 hb); have n13_ := (bb_ BK196 hb); have n14_ := (bb_ BK210 hb); have n15_ := (bb_ BK244 hb); have n16_ := (bb_ BK252 hb); have n17_ := Aside0.mk (below_step (hb_ HB) hb); clear HO202; clear HO205; clear HO227; clear HO230; clear HO236; clear HO239; clear HO247; clear HO258; clear HO266; clear HO271; clear BK151; clear BK159; clear BK167; clear BK196; clear BK210; clear BK244; clear BK252; clear HB; have HO202 := n0_; have HO205 := n1_; have HO227 := n2_; have HO230 := n3_; have HO236 := n4_; have HO239 := n5_; have HO247 := n6_; have HO258 := n7_; have HO266 := n8_; have HO271 := n9_; have BK151 := n10_; have BK159 := n11_; have BK167 := n12_; have BK196 := n13_; have BK210 := n14_; have BK244 := n15_; have BK252 := n16_; have HB := n17_; clear n0_ n1_ n2_ n3_ n4_ n5_ n6_ n7_ n8_ n9_ n10_ n11_ n12_ n13_ n14_ n15_ n16_ n17_; (try clear hb); (try clear hb2); (try clear hk); (try clear hi); have hnb124 := NB244_159.out; have hnc124 := NB159_244.out; have hnb125 := NB244_167.out; have hnc125 := NB167_244.out; have hcz126_0 : w123.cell? ⟨gb244, 0, none⟩ = some (.slice Ao83 t237.length co83) := bc_ BK244 0; have hcz126_1 : w123.cell? ⟨gb244, 1, none⟩ = some (.int .i64 1000) := bc_ BK244 1; have hcz126_2 : w123.cell? ⟨gb244, 2, none⟩ = some (.int .i64 191) := bc_ BK244 2; have hcz126_3 : w123.cell? ⟨gb244, 3, none⟩ = some (.int .i64 1191) := bc_ BK244 3; have hfz126_0 := blk_frozen BK244.out 0; have hfz126_1 := blk_frozen BK244.out 1; have hfz126_2 := blk_frozen BK244.out 2; have hfz126_3 := blk_frozen BK244.out 3) | (go_at_call 31; (with_reducible refine (chargeparkref33_Same.calls 100 _ _ t237 1000 191 1191 _ _ y269 1000 191 1191 true _ ?side1 ?side2 ?side3 ?side4 A29.out).mono ?_); (case side1 => repeat (first | exact (Kd.R_reads' HO239.out).2.2 | (with_reducible refine Kd.C_alloc ?_ _) | (with_reducible refine Kd.C_drewN ?_ _) | (with_reducible refine Kd.C_drew ?_))); (case side2 => exact (Kd.R_reads' HO239.out).2.1); (case side3 => repeat (first | exact (Kd.R_reads' HO271.out).2.2 | (with_reducible refine Kd.C_alloc ?_ _) | (with_reducible refine Kd.C_drewN ?_ _) | (with_reducible refine Kd.C_drew ?_))); (case side4 => exact (Kd.R_reads' HO271.out).2.1); rintro e w127 ⟨rfl, hb⟩; have n0_ := Aside0.mk (Kd.R_below (kr_ HO202) hb); have n1_ := Aside0.mk (Kd.R_below (kr_ HO205) hb); have n2_ := Aside0.mk (Kd.R_below (kr_ HO227) hb); have n3_ := Aside0.mk (Kd.R_below (kr_ HO230) hb); have n4_ := Aside0.mk (Kd.R_below (kr_ HO236) hb); have n5_ := Aside0.mk (Kd.R_below (kr_ HO239) hb); have n6_ := Aside0.mk (Kd.R_below (kr_ HO247) hb); have n7_ := Aside0.mk (Kd.R_below (kr_ HO258) hb); have n8_ := Aside0.mk (Kd.R_below (kr_ HO266) hb); have n9_ := Aside0.mk (Kd.R_below (kr_ HO271) hb); have n10_ := (bb_ BK151 hb); have n11_ := (bb_ BK159 hb); have n12_ := (bb_ BK167 hb); have n13_ := (bb_ BK196 hb); have n14_ := (bb_ BK210 hb); have n15_ := (bb_ BK244 hb); have n16_ := (bb_ BK252 hb); have n17_ := Aside0.mk (below_step (hb_ HB) hb); clear HO202; clear HO205; clear HO227; clear HO230; clear HO236; clear HO239; clear HO247; clear HO258; clear HO266; clear HO271; clear BK151; clear BK159; clear BK167; clear BK196; clear BK210; clear BK244; clear BK252; clear HB; have HO202 := n0_; have HO205 := n1_; have HO227 := n2_; have HO230 := n3_; have HO236 := n4_; have HO239 := n5_; have HO247 := n6_; have HO258 := n7_; have HO266 := n8_; have HO271 := n9_; have BK151 := n10_; have BK159 := n11_; have BK167 := n12_; have BK196 := n13_; have BK210 := n14_; have BK244 := n15_; have BK252 := n16_; have HB := n17_; clear n0_ n1_ n2_ n3_ n4_ n5_ n6_ n7_ n8_ n9_ n10_ n11_ n12_ n13_ n14_ n15_ n16_ n17_; (try clear hb); (try clear hb2); (try clear hk); (try clear hi)))
          go_ret
          exact ⟨by first | rfl | (simp [errW_none, errW_some] <;> rfl) | (simp [*, errW_none, errW_some] <;> rfl), by repeat (first | (with_reducible first | exact HB.out | apply below_alloc | apply pw_below_drewN | apply below_drew1 | refine below_set ?_ GE151.out | refine below_set ?_ GE159.out | refine below_set ?_ GE167.out | refine below_set ?_ GE196.out | refine below_set ?_ GE210.out | refine below_set ?_ GE244.out | refine below_set ?_ GE252.out) | exact HB.out)⟩

end Go.Proofs.Ytbkkgaiokmnmgaa.Pr
