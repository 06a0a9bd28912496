/- Package parser over this program: what names are; and package tariff: what names of tariffs are. -/
import Derived.Test.YtbkkgaiokmnmgaaHBox
import Derived.Test.YtbkkgaiokmnmgaaPrx7
import Derived.Laws.IdiomStrings
import Derived.Laws.Strings
import Derived.LoopN
namespace Go.Proofs.Ytbkkgaiokmnmgaa.Pr
open Go.RowKit Go.Proofs.YtbkkgaiokmnmgaaW.PrintWords Go.Proofs.YtbkkgaiokmnmgaaW.PrintLast Go.Proofs.YtbkkgaiokmnmgaaW.PrintMore
set_option linter.unusedVariables false
set_option linter.unusedSimpArgs false
def kindI (s : ByteArray) : Int := (parser_kindOf.f s).getD 0
def attrB (s : ByteArray) : Bool := (parser_isAttr.f s).getD false
def artB (s : ByteArray) : Bool := (parser_isArticle.f s).getD false
def wordB (s : ByteArray) : Bool := (parser_isWord.f s).getD false
theorem isSome_ite {α : Type} {c : Prop} [Decidable c] {a b : Option α} (ha : a.isSome = true) (hb : b.isSome = true) : (if c then a else b).isSome = true := by split <;> assumption
theorem getD_of_some {α : Type} {x : Option α} {d : α} (h : x.isSome = true) : x = some (x.getD d) := by cases x <;> simp_all
theorem kindI_f (s : ByteArray) : parser_kindOf.f s = some (kindI s) := getD_of_some (by
  unfold parser_kindOf.f
  repeat (first | rfl | refine isSome_ite rfl ?_))
theorem attrB_f (s : ByteArray) : parser_isAttr.f s = some (attrB s) := getD_of_some (by
  unfold parser_isAttr.f
  repeat (first | rfl | refine isSome_ite rfl ?_))
theorem artB_f (s : ByteArray) : parser_isArticle.f s = some (artB s) := getD_of_some (by
  unfold parser_isArticle.f
  repeat (first | rfl | refine isSome_ite rfl ?_))
theorem wordB_f (s : ByteArray) : parser_isWord.f s = some (wordB s) := getD_of_some (by
  unfold parser_isWord.f
  repeat (first | rfl | refine isSome_ite rfl ?_))
theorem kindI_range (s : ByteArray) : 0 ≤ kindI s ∧ kindI s ≤ 7 := by
  unfold kindI parser_kindOf.f
  repeat (first | (split; · exact ⟨by decide, by decide⟩) | exact ⟨by decide, by decide⟩)
def letterB (c : UInt8) : Bool := decide (97 ≤ c.toNat) && decide (c.toNat ≤ 122)
def tailB (c : UInt8) : Bool := letterB c || (c.toNat == 95 || (decide (48 ≤ c.toNat) && decide (c.toNat ≤ 57)))
/-- Is each byte one of a name, at its place? -/
def charsB : List UInt8 → Bool
  | [] => true
  | c :: cs => letterB c && cs.all tailB
def keyB (s : ByteArray) : Bool := decide (0 < kindI s) || (attrB s || (artB s || wordB s))
def nameB (s : ByteArray) : Bool := decide (s.size ≠ 0) && (decide (s.size ≤ 12) && (!keyB s && charsB s.toList))
theorem kindOf_w (s : ByteArray) (w : World) : Calls Try.prog 139 #[.string s] w fun e w' => e = .returned (.int .i64 (kindI s)) ∧ Drawn0 w w' := parser_kindOf.calls s _ w (kindI_f s)
theorem isAttr_w (s : ByteArray) (w : World) : Calls Try.prog 140 #[.string s] w fun e w' => e = .returned (.bool (attrB s)) ∧ Drawn0 w w' := parser_isAttr.calls s _ w (attrB_f s)
theorem isArticle_w (s : ByteArray) (w : World) : Calls Try.prog 141 #[.string s] w fun e w' => e = .returned (.bool (artB s)) ∧ Drawn0 w w' := parser_isArticle.calls s _ w (artB_f s)
theorem isWord_w (s : ByteArray) (w : World) : Calls Try.prog 142 #[.string s] w fun e w' => e = .returned (.bool (wordB s)) ∧ Drawn0 w w' := parser_isWord.calls s _ w (wordB_f s)
theorem toList_len (s : ByteArray) : s.toList.length = s.size := by rw [Go.ByteArray.toList_eq, Array.length_toList]; rfl
set_option maxRecDepth 1000000 in
set_option maxHeartbeats 4000000 in
theorem pname_calls (s : ByteArray) (w : World) : Calls Try.prog 137 #[.string s] w fun e w' => e = .returned (.bool (nameB s)) ∧ Below w.heap.size w w' := by
  obtain ⟨r, hr⟩ : ∃ r, nameB s = r := ⟨_, rfl⟩
  rw [hr]
  have HR := Aside0.mk hr
  clear hr
  have h0 : s.toList = [] ↔ s.size = 0 := by
    rw [← toList_len s]; exact List.length_eq_zero_iff.symm
  by_cases h1 : s.toList = []
  · obtain rfl : r = false := by rw [← HR.out, nameB, decide_eq_false (by rw [h0.1 h1]; decide)]; rfl
    have h1b : s.toList.isEmpty = true := by rw [h1]; rfl
    clear h0
    go_enter Try.func137, Try.ntmps137
    go_wp2_with (first | (go_at_call 139; refine (kindOf_w _ _).mono ?_; rintro e w' ⟨rfl, nd, rfl⟩) | (go_at_call 140; refine (isAttr_w _ _).mono ?_; rintro e w' ⟨rfl, nd2, rfl⟩; rw [d4]) | (go_at_call 141; refine (isArticle_w _ _).mono ?_; rintro e w' ⟨rfl, nd3, rfl⟩; rw [d5]) | (go_at_call 142; refine (isWord_w _ _).mono ?_; rintro e w' ⟨rfl, nd4, rfl⟩; rw [d6]))
    go_ret
    exact ⟨rfl, by first | exact Below.refl _ _ | exact pw_below_drewN (Below.refl _ _) _⟩
  have h1b : s.toList.isEmpty = false := by simpa using h1
  have hs0 : s.size ≠ 0 := fun e => h1 (h0.2 e)
  by_cases h2 : s.size ≤ 12
  case neg =>
    obtain rfl : r = false := by rw [← HR.out, nameB, decide_eq_false h2]; simp
    have d2 : decide ((12 : Int) < (s.size : Int)) = true := decide_eq_true (by omega)
    have d2' : decide (12 < s.size) = true := decide_eq_true (by omega)
    clear h0 h2 hs0
    go_enter Try.func137, Try.ntmps137
    go_wp2_with (first | (go_at_call 139; refine (kindOf_w _ _).mono ?_; rintro e w' ⟨rfl, nd, rfl⟩) | (go_at_call 140; refine (isAttr_w _ _).mono ?_; rintro e w' ⟨rfl, nd2, rfl⟩; rw [d4]) | (go_at_call 141; refine (isArticle_w _ _).mono ?_; rintro e w' ⟨rfl, nd3, rfl⟩; rw [d5]) | (go_at_call 142; refine (isWord_w _ _).mono ?_; rintro e w' ⟨rfl, nd4, rfl⟩; rw [d6]))
    go_ret
    exact ⟨rfl, by first | exact Below.refl _ _ | exact pw_below_drewN (Below.refl _ _) _⟩
  have d2 : decide ((12 : Int) < (s.size : Int)) = false := decide_eq_false (by omega)
  have d2' : decide (12 < s.size) = false := decide_eq_false (by omega)
  have HL := Aside0.mk h2
  have HZ := Aside0.mk hs0
  clear h2 h0 hs0
  by_cases h3 : 0 < kindI s
  · obtain rfl : r = false := by rw [← HR.out, nameB, keyB, decide_eq_true h3]; simp
    have d3 : decide (0 < kindI s) = true := decide_eq_true h3
    clear h3
    go_enter Try.func137, Try.ntmps137
    go_wp2_with (first | (go_at_call 139; refine (kindOf_w _ _).mono ?_; rintro e w' ⟨rfl, nd, rfl⟩) | (go_at_call 140; refine (isAttr_w _ _).mono ?_; rintro e w' ⟨rfl, nd2, rfl⟩; rw [d4]) | (go_at_call 141; refine (isArticle_w _ _).mono ?_; rintro e w' ⟨rfl, nd3, rfl⟩; rw [d5]) | (go_at_call 142; refine (isWord_w _ _).mono ?_; rintro e w' ⟨rfl, nd4, rfl⟩; rw [d6]))
    go_ret
    exact ⟨rfl, by first | exact Below.refl _ _ | exact pw_below_drewN (Below.refl _ _) _⟩
  have d3 : decide (0 < kindI s) = false := decide_eq_false h3
  clear h3
  cases d4 : attrB s
  case true =>
    obtain rfl : r = false := by rw [← HR.out, nameB, keyB, d4]; simp
    go_enter Try.func137, Try.ntmps137
    go_wp2_with (first | (go_at_call 139; refine (kindOf_w _ _).mono ?_; rintro e w' ⟨rfl, nd, rfl⟩) | (go_at_call 140; refine (isAttr_w _ _).mono ?_; rintro e w' ⟨rfl, nd2, rfl⟩; rw [d4]) | (go_at_call 141; refine (isArticle_w _ _).mono ?_; rintro e w' ⟨rfl, nd3, rfl⟩; rw [d5]) | (go_at_call 142; refine (isWord_w _ _).mono ?_; rintro e w' ⟨rfl, nd4, rfl⟩; rw [d6]))
    go_ret
    exact ⟨rfl, by first | exact Below.refl _ _ | exact pw_below_drewN (Below.refl _ _) _⟩
  cases d5 : artB s
  case true =>
    obtain rfl : r = false := by rw [← HR.out, nameB, keyB, d5]; simp
    go_enter Try.func137, Try.ntmps137
    go_wp2_with (first | (go_at_call 139; refine (kindOf_w _ _).mono ?_; rintro e w' ⟨rfl, nd, rfl⟩) | (go_at_call 140; refine (isAttr_w _ _).mono ?_; rintro e w' ⟨rfl, nd2, rfl⟩; rw [d4]) | (go_at_call 141; refine (isArticle_w _ _).mono ?_; rintro e w' ⟨rfl, nd3, rfl⟩; rw [d5]) | (go_at_call 142; refine (isWord_w _ _).mono ?_; rintro e w' ⟨rfl, nd4, rfl⟩; rw [d6]))
    go_ret
    exact ⟨rfl, by first | exact Below.refl _ _ | exact pw_below_drewN (Below.refl _ _) _⟩
  cases d6 : wordB s
  case true =>
    obtain rfl : r = false := by rw [← HR.out, nameB, keyB, d6]; simp
    go_enter Try.func137, Try.ntmps137
    go_wp2_with (first | (go_at_call 139; refine (kindOf_w _ _).mono ?_; rintro e w' ⟨rfl, nd, rfl⟩) | (go_at_call 140; refine (isAttr_w _ _).mono ?_; rintro e w' ⟨rfl, nd2, rfl⟩; rw [d4]) | (go_at_call 141; refine (isArticle_w _ _).mono ?_; rintro e w' ⟨rfl, nd3, rfl⟩; rw [d5]) | (go_at_call 142; refine (isWord_w _ _).mono ?_; rintro e w' ⟨rfl, nd4, rfl⟩; rw [d6]))
    go_ret
    exact ⟨rfl, by first | exact Below.refl _ _ | exact pw_below_drewN (Below.refl _ _) _⟩
  have HC : Aside0 (charsB s.toList = r) := ⟨by rw [← HR.out, nameB, keyB, d3, d4, d5, d6, decide_eq_true HZ.out, decide_eq_true HL.out]; rfl⟩
  have HK : Aside0 (∀ W : World, _) := ⟨fun W => run_bytes_of_string (P := Try.prog) W 9 151 5 s Try.underlying9 Try.underlying151 Try.underlying5⟩
  go_enter Try.func137, Try.ntmps137
  go_wp2_with (first | (go_at_call 139; refine (kindOf_w _ _).mono ?_; rintro e w' ⟨rfl, nd, rfl⟩) | (go_at_call 140; refine (isAttr_w _ _).mono ?_; rintro e w' ⟨rfl, nd2, rfl⟩; rw [d4]) | (go_at_call 141; refine (isArticle_w _ _).mono ?_; rintro e w' ⟨rfl, nd3, rfl⟩; rw [d5]) | (go_at_call 142; refine (isWord_w _ _).mono ?_; rintro e w' ⟨rfl, nd4, rfl⟩; rw [d6]))
  rw [HK.out]
  generalize grownCap _ s.size 0 5 = cap
  have HBY := Aside0.mk (bytesRow_at s cap)
  generalize bytesRow s cap = C at HBY ⊢
  go_simp
  have HB0 : Aside0 (Below w.heap.size w ((w.drewN (nd + nd2 + nd3 + nd4 + 1)).alloc (Obj.cells C 5 (C.size, C.size + 1)))) := ⟨(pw_below_drewN (Below.refl _ _) _).alloc (Nat.le_refl _) _⟩
  have HCE : Aside0 (∀ j (hj : j < s.data.size), ((w.drewN (nd + nd2 + nd3 + nd4 + 1)).alloc (Obj.cells C 5 (C.size, C.size + 1))).cell? ⟨w.heap.size, j, none⟩ = some (.int .u8 (s.data[j].toNat : Int))) := ⟨fun j hj => by
    show ((w.drewN (nd + nd2 + nd3 + nd4 + 1)).alloc (Obj.cells C 5 (C.size, C.size + 1))).cell? ⟨(w.drewN (nd + nd2 + nd3 + nd4 + 1)).heap.size, j, none⟩ = _
    rw [World.cell?_alloc_mark]; exact HBY.out j hj⟩
  generalize (w.drewN (nd + nd2 + nd3 + nd4 + 1)).alloc (Obj.cells C 5 (C.size, C.size + 1)) = W0 at HB0 HCE ⊢
  clear HBY HK
  go_wp2
  go_loop [33] (fun s33 => ∃ i : Nat, s33 = .int .i64 (i : Int) ∧ i ≤ s.size ∧ Aside0 (i = 0 → charsB s.toList = r) ∧ Aside0 (0 < i → (s.toList.drop i).all tailB = r)) (fun s33 => s.size - (intOf s33).toNat)
  case atStart => exact ⟨0, rfl, Nat.zero_le _, ⟨fun _ => HC.out⟩, ⟨fun h => absurd h (Nat.lt_irrefl 0)⟩⟩
  case round =>
    obtain ⟨i, rfl, hi, H0, H1⟩ := hrel
    have h12 : (i : Int) ≤ 12 := by have := HL.out; omega
    by_cases hlt : i < s.size
    · have hd : s.toList.drop i = s.data[i]'hlt :: s.toList.drop (i + 1) := by
        rw [Go.ByteArray.toList_eq, List.drop_eq_getElem_cons (by rw [Array.length_toList]; exact hlt), Array.getElem_toList]
      have hcell := HCE.out i hlt
      generalize s.data[i]'hlt = c at hd hcell
      have hc0 : (0 : Int) ≤ (c.toNat : Int) := by omega
      have hc1 : (c.toNat : Int) < 256 := by have := c.toNat_lt; omega
      have HD := Aside0.mk hd
      clear hd
      have hx : ∃ x : Int, (c.toNat : Int) = x := ⟨_, rfl⟩
      obtain ⟨x, hx⟩ := hx
      rw [hx] at hcell hc0 hc1
      have HX := Aside0.mk hx
      clear hx
      by_cases b1 : 97 ≤ x ∧ x ≤ 122
      · have HT : Aside0 (letterB c = true) := ⟨by have := HX.out; unfold letterB; rw [decide_eq_true (by omega), decide_eq_true (by omega)]; rfl⟩
        have HN : Aside0 ((s.toList.drop (i + 1)).all tailB = r) := ⟨by
          by_cases e : i = 0
          · have h := H0.out e
            have h2 := HD.out
            subst e
            rw [List.drop_zero] at h2
            rw [h2, charsB, HT.out, Bool.true_and] at h
            exact h
          · have h := H1.out (by omega)
            rw [HD.out, List.all_cons, tailB, HT.out, Bool.true_or, Bool.true_and] at h
            exact h⟩
        obtain ⟨b2, b3⟩ := b1
        go_wp2
        go_round
        case rel => exact ⟨i + 1, by go_num, by omega, ⟨fun h => absurd h (Nat.succ_ne_zero i)⟩, ⟨fun _ => HN.out⟩⟩
        case measure => simp [intOf]; omega
      · have HT : Aside0 (letterB c = false) := ⟨by
          have := HX.out
          unfold letterB
          by_cases e : 97 ≤ c.toNat
          · rw [decide_eq_true e, decide_eq_false (by omega)]; rfl
          · rw [decide_eq_false e]; rfl⟩
        have b1' : x < 97 ∨ 122 < x := by omega
        clear b1
        by_cases e : i = 0
        · subst e
          have hr : r = false := by
            have h := H0.out rfl
            have h2 := HD.out
            rw [List.drop_zero] at h2
            rw [h2, charsB, HT.out, Bool.false_and] at h
            exact h.symm
          subst hr
          rcases b1' with b2 | b2
          · go_wp2
            go_ret
            exact ⟨rfl, HB0.out⟩
          · have b3 : 97 ≤ x := by omega
            have b4 : decide (x ≤ 122) = false := decide_eq_false (by omega)
            go_wp2
            go_ret
            exact ⟨rfl, HB0.out⟩
        · have hi0 : (((i : Nat) : Int) == 0) = false := beq_eq_false_iff_ne.2 (by omega)
          have HR2 : Aside0 (r = (tailB c && (s.toList.drop (i + 1)).all tailB)) := ⟨by rw [← H1.out (by omega), HD.out, List.all_cons]⟩
          clear H0 H1
          by_cases e5 : x = 95
          · have HN : Aside0 ((s.toList.drop (i + 1)).all tailB = r) := ⟨by
              have h := HX.out
              rw [HR2.out, tailB, HT.out, show (c.toNat == 95) = true from beq_iff_eq.2 (by omega)]; rfl⟩
            subst e5
            have b2 : (95 : Int) < 97 := by decide
            clear b1' e
            go_wp2
            go_round
            case rel => exact ⟨i + 1, by go_num, by omega, ⟨fun h => absurd h (Nat.succ_ne_zero i)⟩, ⟨fun _ => HN.out⟩⟩
            case measure => simp [intOf]; omega
          · have n5 : (x != 95) = true := bne_iff_ne.2 e5
            by_cases e6 : 48 ≤ x ∧ x ≤ 57
            · have HN : Aside0 ((s.toList.drop (i + 1)).all tailB = r) := ⟨by
                have h := HX.out
                rw [HR2.out, tailB, HT.out, decide_eq_true (show 48 ≤ c.toNat by omega), decide_eq_true (show c.toNat ≤ 57 by omega)]; simp⟩
              obtain ⟨e7, e8⟩ := e6
              have b2 : x < 97 := by omega
              clear b1' e e5
              go_wp2
              go_round
              case rel => exact ⟨i + 1, by go_num, by omega, ⟨fun h => absurd h (Nat.succ_ne_zero i)⟩, ⟨fun _ => HN.out⟩⟩
              case measure => simp [intOf]; omega
            · have hr : r = false := by
                have h := HX.out
                rw [HR2.out, tailB, HT.out, show (c.toNat == 95) = false from beq_eq_false_iff_ne.2 (by omega)]
                by_cases q1 : 48 ≤ c.toNat
                · rw [decide_eq_true q1, decide_eq_false (show ¬ c.toNat ≤ 57 by omega)]; rfl
                · rw [decide_eq_false q1]; rfl
              subst hr
              have e7 : x < 48 ∨ 57 < x := by omega
              clear e6 e5 e HR2
              rcases b1' with b2 | b2
              · rcases e7 with e8 | e8
                · go_wp2
                  go_ret
                  exact ⟨rfl, HB0.out⟩
                · have e9 : 48 ≤ x := by omega
                  go_wp2
                  go_ret
                  exact ⟨rfl, HB0.out⟩
              · have b3 : 97 ≤ x := by omega
                have b4 : decide (x ≤ 122) = false := decide_eq_false (by omega)
                have e8 : 57 < x := by omega
                have e9 : 48 ≤ x := by omega
                clear e7
                go_wp2
                go_ret
                exact ⟨rfl, HB0.out⟩
    · obtain rfl : i = s.size := by omega
      have hr : r = true := by
        have h := H1.out (by have := HZ.out; omega)
        rw [List.drop_eq_nil_of_le (by rw [toList_len]; omega)] at h
        exact h.symm
      subst hr
      go_wp2
      go_ret
      exact ⟨rfl, HB0.out⟩
/-! ### a tree of one item -/
set_option maxRecDepth 1000000 in
set_option maxHeartbeats 4000000 in
theorem count_leaf (s : ByteArray) (m : Int) (w : World) : Calls Try.prog 130 #[.agg #[.int .i64 2, .string s, .int .i64 7, .int .i64 0, .slice none 0 0], .int .i64 m] w fun e w' => e = .returned (.int .i64 1) ∧ Below w.heap.size w w' := by
  go_enter Try.func130, Try.ntmps130
  go_wp2
  refine wp_loop_rounds 1 ?_
  rw [rounds_succ]
  go_wp2
  go_ret
  exact ⟨rfl, (Below.refl _ _).alloc (Nat.le_refl _) _⟩
set_option maxRecDepth 1000000 in
set_option maxHeartbeats 4000000 in
theorem item_calls (s : ByteArray) (w : World) : Calls Try.prog 133 #[.agg #[.int .i64 2, .string s, .int .i64 7, .int .i64 0, .slice none 0 0]] w fun e w' => e = .returned (.bool (nameB s)) ∧ Below w.heap.size w w' := by
  cases d : nameB s
  · go_enter Try.func133, Try.ntmps133
    go_wp2_with (go_at_call 137; refine (pname_calls _ _).mono ?_; rintro e w2 ⟨rfl, hb2⟩; rw [d]; have HB2 := Aside0.mk hb2; clear hb2)
    go_ret
    exact ⟨rfl, ((Below.refl _ _).alloc (Nat.le_refl _) _).trans (HB2.out.mono (by simp))⟩
  · go_enter Try.func133, Try.ntmps133
    go_wp2_with (go_at_call 137; refine (pname_calls _ _).mono ?_; rintro e w2 ⟨rfl, hb2⟩; rw [d]; have y2 : w2.cell? ⟨w.heap.size, 2, none⟩ = some (.int .i64 7) := (hb2.cell (p := ⟨w.heap.size, 2, none⟩) (by simp)).trans (by simp [go_sem]); have y4 : w2.cell? ⟨w.heap.size, 4, none⟩ = some (.slice none 0 0) := (hb2.cell (p := ⟨w.heap.size, 4, none⟩) (by simp)).trans (by simp [go_sem]); have HB2 := Aside0.mk hb2; clear hb2)
    refine wp_loop_rounds 1 ?_
    rw [rounds_succ]
    go_wp2
    go_ret
    exact ⟨rfl, ((Below.refl _ _).alloc (Nat.le_refl _) _).trans (HB2.out.mono (by simp))⟩
set_option maxRecDepth 1000000 in
set_option maxHeartbeats 4000000 in
/-- A tree of one leaf has two nodes. -/
theorem count_two (B c : Nat) (s : ByteArray) (w : World) (hb : w.heap[B]? = some (.cells #[.int .i64 2, .string s, .int .i64 7, .int .i64 0, .slice none 0 0] 138 (0, 0))) : Calls Try.prog 130 #[.agg #[.int .i64 1, .string ⟨#[]⟩, .int .i64 0, .int .i64 0, .slice (some ⟨B, 0, none⟩) 1 c], .int .i64 1500] w fun e w' => e = .returned (.int .i64 2) ∧ Below w.heap.size w w' := by
  have n0 : w.cell? ⟨B, 0, none⟩ = some (.int .i64 2) := (blk_cell hb 0).trans rfl
  have n1 : w.cell? ⟨B, 1, none⟩ = some (.string s) := (blk_cell hb 1).trans rfl
  have n2 : w.cell? ⟨B, 2, none⟩ = some (.int .i64 7) := (blk_cell hb 2).trans rfl
  have n3 : w.cell? ⟨B, 3, none⟩ = some (.int .i64 0) := (blk_cell hb 3).trans rfl
  have n4 : w.cell? ⟨B, 4, none⟩ = some (.slice none 0 0) := (blk_cell hb 4).trans rfl
  replace n0 := old_cell (.cells #[.int .i64 1, .string ⟨#[]⟩, .int .i64 0, .int .i64 0, .slice (some ⟨B, 0, none⟩) 1 c] 138) n0
  replace n1 := old_cell (.cells #[.int .i64 1, .string ⟨#[]⟩, .int .i64 0, .int .i64 0, .slice (some ⟨B, 0, none⟩) 1 c] 138) n1
  replace n2 := old_cell (.cells #[.int .i64 1, .string ⟨#[]⟩, .int .i64 0, .int .i64 0, .slice (some ⟨B, 0, none⟩) 1 c] 138) n2
  replace n3 := old_cell (.cells #[.int .i64 1, .string ⟨#[]⟩, .int .i64 0, .int .i64 0, .slice (some ⟨B, 0, none⟩) 1 c] 138) n3
  replace n4 := old_cell (.cells #[.int .i64 1, .string ⟨#[]⟩, .int .i64 0, .int .i64 0, .slice (some ⟨B, 0, none⟩) 1 c] 138) n4
  have HB := Aside0.mk hb
  clear hb
  go_enter Try.func130, Try.ntmps130
  go_wp2
  refine wp_loop_rounds 2 ?_
  rw [rounds_succ]
  go_wp2_with (go_at_call 130; refine (count_leaf _ _ _).mono ?_; rintro e w2 ⟨rfl, hb2⟩; have HB2 := Aside0.mk hb2; clear hb2)
  rw [rounds_succ]
  go_wp2
  go_ret
  exact ⟨rfl, (((Below.refl _ _).alloc (Nat.le_refl _) _).alloc (by simp) _).trans (HB2.out.mono (by simp; omega))⟩
theorem valid1_calls (s : ByteArray) (w : World) : Calls Try.prog 132 #[.agg #[.int .i64 2, .string s, .int .i64 7, .int .i64 0, .slice none 0 0]] w fun e w' => e = .returned (.bool (!nameB s)) ∧ Below w.heap.size w w' := by
  obtain ⟨b, hb⟩ : ∃ b, nameB s = b := ⟨_, rfl⟩
  have HB := Aside0.mk hb
  rw [hb]
  clear hb
  go_enter Try.func132, Try.ntmps132
  go_wp2_with (go_at_call 133; refine (item_calls _ _).mono ?_; rintro e w2 ⟨rfl, hb2⟩; rw [HB.out]; have HB2 := Aside0.mk hb2; clear hb2)
  go_ret
  exact ⟨rfl, ((Below.refl _ _).alloc (Nat.le_refl _) _).trans (HB2.out.mono (by simp))⟩
set_option maxRecDepth 1000000 in
set_option maxHeartbeats 4000000 in
theorem index_calls (B c : Nat) (s : ByteArray) (w : World) (hb : w.heap[B]? = some (.cells #[.int .i64 2, .string s, .int .i64 7, .int .i64 0, .slice none 0 0] 138 (0, 0))) : Calls Try.prog 136 #[.slice (some ⟨B, 0, none⟩) 1 c, .func (.func 132) #[] #[]] w fun e w' => e = .returned (.int .i64 (if nameB s then -1 else 0)) ∧ Below w.heap.size w w' := by
  have n0 : w.cell? ⟨B, 0, none⟩ = some (.int .i64 2) := (blk_cell hb 0).trans rfl
  have n1 : w.cell? ⟨B, 1, none⟩ = some (.string s) := (blk_cell hb 1).trans rfl
  have n2 : w.cell? ⟨B, 2, none⟩ = some (.int .i64 7) := (blk_cell hb 2).trans rfl
  have n3 : w.cell? ⟨B, 3, none⟩ = some (.int .i64 0) := (blk_cell hb 3).trans rfl
  have n4 : w.cell? ⟨B, 4, none⟩ = some (.slice none 0 0) := (blk_cell hb 4).trans rfl
  have HV : Aside0 (∀ W, _) := ⟨fun W => valid1_calls s W⟩
  clear hb
  cases d : nameB s
  · rw [d] at HV
    clear d
    go_enter Try.func136, Try.ntmps136
    go_wp2
    refine wp_loop_rounds 2 ?_
    rw [rounds_succ]
    go_wp2_with (go_at_call 132; refine (HV.out _).mono ?_; rintro e w2 ⟨rfl, hb2⟩; have HB2 := Aside0.mk hb2; clear hb2)
    go_ret
    exact ⟨rfl, HB2.out⟩
  · rw [d] at HV
    clear d
    go_enter Try.func136, Try.ntmps136
    go_wp2
    refine wp_loop_rounds 2 ?_
    rw [rounds_succ]
    go_wp2_with (go_at_call 132; refine (HV.out _).mono ?_; rintro e w2 ⟨rfl, hb2⟩; have HB2 := Aside0.mk hb2; clear hb2)
    rw [rounds_succ]
    go_wp2
    go_ret
    exact ⟨rfl, HB2.out⟩
theorem contains_calls (B c : Nat) (s : ByteArray) (w : World) (hb : w.heap[B]? = some (.cells #[.int .i64 2, .string s, .int .i64 7, .int .i64 0, .slice none 0 0] 138 (0, 0))) : Calls Try.prog 131 #[.slice (some ⟨B, 0, none⟩) 1 c, .func (.func 132) #[] #[]] w fun e w' => e = .returned (.bool (!nameB s)) ∧ Below w.heap.size w w' := by
  have HV := Aside0.mk (index_calls B c s w hb)
  clear hb
  cases d : nameB s
  all_goals
    rw [d] at HV
    clear d
    go_enter Try.func131, Try.ntmps131
    go_wp2_with (go_at_call 136; refine HV.out.mono ?_; rintro e w2 ⟨rfl, hb2⟩; have HB2 := Aside0.mk hb2; clear hb2)
    go_ret
    exact ⟨rfl, HB2.out⟩
set_option maxRecDepth 1000000 in
set_option maxHeartbeats 4000000 in
theorem tree_calls (B c : Nat) (s : ByteArray) (w : World) (hb : w.heap[B]? = some (.cells #[.int .i64 2, .string s, .int .i64 7, .int .i64 0, .slice none 0 0] 138 (0, 0))) : Calls Try.prog 119 #[.agg #[.int .i64 1, .string ⟨#[]⟩, .int .i64 0, .int .i64 0, .slice (some ⟨B, 0, none⟩) 1 c]] w fun e w' => e = .returned (.bool (nameB s)) ∧ Below w.heap.size w w' := by
  have HB := Aside0.mk hb
  obtain ⟨b, hbb⟩ : ∃ b, nameB s = b := ⟨_, rfl⟩
  have HN := Aside0.mk hbb
  rw [hbb]
  clear hb hbb
  have HA : Aside0 ((w.alloc (.cells #[.int .i64 1, .string ⟨#[]⟩, .int .i64 0, .int .i64 0, .slice (some ⟨B, 0, none⟩) 1 c] 138)).heap[B]? = some (.cells #[.int .i64 2, .string s, .int .i64 7, .int .i64 0, .slice none 0 0] 138 (0, 0))) := ⟨(Below.heap_alloc _ _ _ (blk_lt HB.out)).trans HB.out⟩
  go_enter Try.func119, Try.ntmps119
  go_wp2_with (first | (go_at_call 130; refine (count_two B c s _ (by exact HA.out)).mono ?_; rintro e w2 ⟨rfl, hb2⟩; have y4 : w2.cell? ⟨w.heap.size, 4, none⟩ = some (.slice (some ⟨B, 0, none⟩) 1 c) := (hb2.cell (p := ⟨w.heap.size, 4, none⟩) (by simp)).trans (by simp [go_sem]); have HB2 := Aside0.mk hb2; clear hb2) | (go_at_call 131; refine (contains_calls B c s _ (by exact (HB2.out.block _ (blk_lt HA.out)).trans HA.out)).mono ?_; rintro e w3 ⟨rfl, hb3⟩; rw [HN.out]; have HB3 := Aside0.mk hb3; clear hb3))
  go_ret
  refine ⟨by first | rfl | simp, (((Below.refl _ _).alloc (Nat.le_refl _) _).trans (HB2.out.mono (by simp))).trans (HB3.out.mono (by have := HB2.out.size; simp at this; omega))⟩
def tariff_isName.f (a0 : ByteArray) : Option Bool := some (nameB a0)
set_option maxRecDepth 1000000 in
set_option maxHeartbeats 4000000 in
theorem tariff_isName.calls (a0 : ByteArray) (r : Bool) (w : World) (h : tariff_isName.f a0 = some r) : Calls Try.prog 90 #[.string a0] w fun e w' => e = .returned (.bool r) ∧ Below w.heap.size w w' := by
  obtain rfl := Option.some.inj h
  clear h
  obtain ⟨b, hbb⟩ : ∃ b, nameB a0 = b := ⟨_, rfl⟩
  have HN := Aside0.mk hbb
  rw [hbb]
  clear hbb
  go_enter Try.func90, Try.ntmps90
  have HX : Aside0 (((w.alloc (.cells #[.int .i64 2, .string a0, .int .i64 7, .int .i64 0, .slice none 0 0] 138)).alloc (.cells #[.int .i64 2, .string a0, .int .i64 7, .int .i64 0, .slice none 0 0] 138)).heap[w.heap.size + 1]? = some (.cells #[.int .i64 2, .string a0, .int .i64 7, .int .i64 0, .slice none 0 0] 138 (0, 0))) := ⟨second_box _ _ _⟩
  go_wp2_with (go_at_call 119; refine (tree_calls (w.heap.size + 1) 1 a0 _ (by exact HX.out)).mono ?_; rintro e w2 ⟨rfl, hb2⟩; rw [HN.out]; have HB2 := Aside0.mk hb2; clear hb2)
  go_ret
  exact ⟨rfl, (((Below.refl _ _).alloc (Nat.le_refl _) _).alloc (by simp) _).trans (HB2.out.mono (by simp; omega))⟩
end Go.Proofs.Ytbkkgaiokmnmgaa.Pr
