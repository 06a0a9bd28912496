/- The calendar, in plain words: what the reference computes is what the package computes; facts on valid calendars. -/
import Derived.Test.YtbkkgaiokmnmgaaHDaysL
import Derived.Test.YtbkkgaiokmnmgaaPrx10
import Derived.Test.YtbkkgaiokmnmgaaPrOpn
import Derived.Test.YtbkkgaiokmnmgaaHBillL
import Derived.Test.YtbkkgaiokmnmgaaPrx8
/- The calendar, in plain words: what the reference computes is what the package computes; facts on valid calendars. -/
namespace Go.Proofs.Ytbkkgaiokmnmgaa.Pr
open Go.RowKit Go.Proofs.YtbkkgaiokmnmgaaW.PrintWords Go.Proofs.YtbkkgaiokmnmgaaW.PrintLast
set_option linter.unusedVariables false

theorem wrap_id {x : Int} (h0 : -9223372036854775808 ≤ x) (h1 : x ≤ 9223372036854775807) : wrap64 x = x := by unfold wrap64; omega
theorem off_range {m o : Int} {cs : List S99} {hs : List Int} (h : dvalidB o cs hs = true) : -1440 ≤ offAt m o cs ∧ offAt m o cs ≤ 1440 := by
  obtain ⟨v0, v1, _, v3, v4, _⟩ := dvalidB_iff.1 h
  exact offB_iff.1 (offAt_range m o cs v0 v3)
theorem refFew (o : Int) (cs : List S99) (hs : List Int) : chargeparkref26_Few.f o cs hs = some (decide (cs.length ≤ 30) && decide (hs.length ≤ 60)) := by
  unfold chargeparkref26_Few.f
  by_cases h : (cs.length : Int) ≤ 30
  · rw [if_pos h, decide_eq_true (show cs.length ≤ 30 by omega), Bool.true_and]
    congr 1
    exact decide_eq_decide.2 (by omega)
  · rw [if_neg h, decide_eq_false (show ¬ cs.length ≤ 30 by omega), Bool.false_and]
theorem Local_ok {o : Int} {cs : List S99} {hs : List Int} {m : Int} (hv : dvalidB o cs hs = true) (h0 : 0 ≤ m) (h1 : m ≤ 52560000) : days_Local.f o cs hs m = some ((m + offAt m o cs + 1440) / 1440 - 1, (m + offAt m o cs + 1440) % 1440, 0) := by
  unfold days_Local.f
  rw [if_pos ⟨h0, h1, hv⟩]
theorem Type_ok {o : Int} {cs : List S99} {hs : List Int} {d : Int} (hv : dvalidB o cs hs = true) (h0 : -1 ≤ d) (h1 : d ≤ 36501) : days_Type.f o cs hs d = some (if hs.contains d then 2 else weekOf d, 0) := by
  unfold days_Type.f
  rw [if_pos ⟨h0, h1, hv⟩]
end Go.Proofs.Ytbkkgaiokmnmgaa.Pr
/- Package bill, in plain words: what the references' functions answer; when articles apply; what lines cost. -/
namespace Go.Proofs.Ytbkkgaiokmnmgaa.Pr
open Go.RowKit Go.Proofs.YtbkkgaiokmnmgaaW.PrintWords Go.Proofs.YtbkkgaiokmnmgaaW.PrintLast
set_option linter.unusedVariables false
/-! ### validity by the references -/
theorem refFew33 (n : ByteArray) (l : List S26) (o : Int) (cs : List S99) (hs : List Int) (s0 s1 s2 : Int) (sl : List S50) : ∃ b, chargeparkref33_Few.f n l o cs hs s0 s1 s2 sl = some b ∧ (b = true → cs.length ≤ 30 ∧ hs.length ≤ 60 ∧ n.size ≤ 50 ∧ l.length ≤ 20 ∧ sl.length ≤ 60) := by
  unfold chargeparkref33_Few.f
  rw [refFew, Option.bind_some]
  by_cases h : (decide (cs.length ≤ 30) && decide (hs.length ≤ 60)) = true
  · rw [if_pos h]
    rw [Bool.and_eq_true, decide_eq_true_eq, decide_eq_true_eq] at h
    by_cases h1 : (n.size : Int) ≤ 50
    · rw [if_pos h1]
      by_cases h2 : (l.length : Int) ≤ 20
      · rw [if_pos h2]; exact ⟨_, rfl, fun h3 => ⟨h.1, h.2, by omega, by omega, by have := of_decide_eq_true h3; omega⟩⟩
      · rw [if_neg h2]; exact ⟨_, rfl, fun h3 => by cases h3⟩
    · rw [if_neg h1]; exact ⟨_, rfl, fun h3 => by cases h3⟩
  · rw [if_neg h]; exact ⟨_, rfl, fun h3 => by cases h3⟩
/-- Slices in order, with the one before. -/
theorem slOK_prev (e : Int) (x : S50) (l : List S50) (t : Int) : slOK e t (x :: l) = (decide (t ≤ x.f0 ∧ x.f0 ≤ e - 1) && (decide (0 ≤ x.f1 ∧ x.f1 ≤ 10000) && slOK e (x.f0 + 1) l)) := rfl
theorem refSes_l0 (s0 s1 s2 : Int) (l : List S50) (h0s : 0 ≤ s0) (h2s : s2 ≤ 52560000) (hl : l.length ≤ 48) : ∀ (d k : Nat) (i least : Int), 0 ≤ i → i ≤ l.length → (l.length : Int) - i = d → d < k → s0 ≤ least → (i = 0 → least = s0) → (0 < i → least = (rd_T50 l (i - 1)).f0 + 1) →
    chargeparkref33_Valid.l0 k i s0 s1 s2 l = some (slOK s2 least (l.drop i.toNat)) := by
  intro d
  induction d with
  | zero =>
    intro k i t h0 h1 hd hk ht hz hp
    obtain ⟨k, rfl⟩ : ∃ m, k = m + 1 := ⟨k - 1, by omega⟩
    simp only [chargeparkref33_Valid.l0]
    rw [if_neg (by omega), List.drop_eq_nil_of_le (by omega)]
    rfl
  | succ d ih =>
    intro k i t h0 h1 hd hk ht hz hp
    obtain ⟨k, rfl⟩ : ∃ m, k = m + 1 := ⟨k - 1, by omega⟩
    have hlt : i < (l.length : Int) := by omega
    rw [drop_rdL h0 hlt, slOK_prev]
    simp only [chargeparkref33_Valid.l0]
    rw [if_pos hlt, if_pos h0]
    have hih := ih k (i + 1) ((rd_T50 l i).f0 + 1) (by omega) (by omega) (by omega) (by omega)
    generalize hx : rd_T50 l i = x at hih ⊢
    by_cases c0 : x.f0 < s0
    · rw [if_pos c0, decide_eq_false (show ¬ (t ≤ x.f0 ∧ x.f0 ≤ s2 - 1) by omega), Bool.false_and]
    rw [if_neg c0]
    by_cases c1 : x.f0 ≥ s2
    · rw [if_pos c1, decide_eq_false (show ¬ (t ≤ x.f0 ∧ x.f0 ≤ s2 - 1) by omega), Bool.false_and]
    rw [if_neg c1]
    by_cases c2 : x.f1 < 0
    · rw [if_pos c2, decide_eq_false (show ¬ (0 ≤ x.f1 ∧ x.f1 ≤ 10000) by omega), Bool.false_and, Bool.and_false]
    rw [if_neg c2]
    by_cases c3 : x.f1 > 10000
    · rw [if_pos c3, decide_eq_false (show ¬ (0 ≤ x.f1 ∧ x.f1 ≤ 10000) by omega), Bool.false_and, Bool.and_false]
    rw [if_neg c3, decide_eq_true (show 0 ≤ x.f1 ∧ x.f1 ≤ 10000 by omega), Bool.true_and]
    have hih2 := hih (by omega) (by omega) (fun _ => by rw [Int.add_sub_cancel, hx])
    rw [wrap_id (x := i + 1) (by omega) (by omega)]
    by_cases c4 : i > 0
    · have hp1 := hp c4
      rw [if_pos c4, wrap_id (x := i - 1) (by omega) (by omega), if_pos (by omega), if_pos (by omega)]
      by_cases c5 : x.f0 ≤ (rd_T50 l (i - 1)).f0
      · rw [if_pos c5, decide_eq_false (show ¬ (t ≤ x.f0 ∧ x.f0 ≤ s2 - 1) by omega), Bool.false_and]
      · rw [if_neg c5, decide_eq_true (show t ≤ x.f0 ∧ x.f0 ≤ s2 - 1 by omega), Bool.true_and]
        exact hih2
    · rw [if_neg c4, decide_eq_true (show t ≤ x.f0 ∧ x.f0 ≤ s2 - 1 by have := hz (by omega); omega), Bool.true_and]
      exact hih2
theorem refSes (k : Nat) (s0 s1 s2 : Int) (l : List S50) (hk : 60 ≤ k) : chargeparkref33_Valid.f k s0 s1 s2 l = some (svalB s0 s1 s2 l) := by
  obtain ⟨k, rfl⟩ : ∃ m, k = m + 1 := ⟨k - 1, by omega⟩
  unfold chargeparkref33_Valid.f svalB
  simp only [chargeparkref33_Valid.j0, if_true]
  by_cases h1 : s0 < 0
  · rw [if_pos h1, decide_eq_false (show ¬ SesP s0 s1 s2 from fun h => by have := h.1; omega), Bool.false_and]
  rw [if_neg h1]
  by_cases h2 : s1 ≤ s0
  · rw [if_pos h2, decide_eq_false (show ¬ SesP s0 s1 s2 from fun h => by have := h.2.1; omega), Bool.false_and]
  rw [if_neg h2]
  by_cases h3 : s1 > 52560000
  · rw [if_pos h3, decide_eq_false (show ¬ SesP s0 s1 s2 from fun h => by have := h.2.2.1; omega), Bool.false_and]
  rw [if_neg h3, wrap_id (x := s1 - s0) (by omega) (by omega)]
  by_cases h4 : s1 - s0 > 2880
  · rw [if_pos h4, decide_eq_false (show ¬ SesP s0 s1 s2 from fun h => by have := h.2.1; omega), Bool.false_and]
  rw [if_neg h4]
  by_cases h5 : s2 < s0
  · rw [if_pos h5, decide_eq_false (show ¬ SesP s0 s1 s2 from fun h => by have := h.2.2.2; omega), Bool.false_and]
  rw [if_neg h5]
  by_cases h6 : s2 > s1
  · rw [if_pos h6, decide_eq_false (show ¬ SesP s0 s1 s2 from fun h => by have := h.2.2.2; omega), Bool.false_and]
  rw [if_neg h6, decide_eq_true (show SesP s0 s1 s2 from ⟨by omega, by omega, by omega, by omega⟩), Bool.true_and]
  by_cases h7 : (l.length : Int) > 48
  · rw [if_pos (by simpa using h7), decide_eq_false (show ¬ l.length ≤ 48 by omega), Bool.false_and]
  · rw [if_neg (by simpa using h7), decide_eq_true (show l.length ≤ 48 by omega), Bool.true_and, refSes_l0 s0 s1 s2 l (by omega) (by omega) (by omega) l.length k 0 s0 (by omega) (by omega) (by omega) (by omega) (by omega) (fun _ => rfl) (fun h => absurd h (by omega))]
    rfl
theorem ite_some_false {c : Prop} [Decidable c] {x y : Option Bool} (hx : c → x = some false) (hy : ¬ c → y = some false) : (if c then x else y) = some false := by
  split
  · exact hx ‹_›
  · exact hy ‹_›
/-! ### when an article applies -/
def bitB (d k : Int) : Bool := Go.bits .and .i64 (shr .i64 d k) 1 == 1
def dayOf (o : Int) (cs : List S99) (m : Int) : Int := (m + offAt m o cs + 1440) / 1440 - 1
def minOf (o : Int) (cs : List S99) (m : Int) : Int := (m + offAt m o cs + 1440) % 1440
def kindOfDay (hs : List Int) (d : Int) : Int := if hs.contains d then 2 else weekOf d
theorem kindOfDay_range (hs : List Int) (d : Int) : kindOfDay hs d = 0 ∨ kindOfDay hs d = 1 ∨ kindOfDay hs d = 2 := by
  unfold kindOfDay weekOf
  split
  · exact .inr (.inr rfl)
  split
  · exact .inr (.inr rfl)
  split
  · exact .inr (.inl rfl)
  · exact .inl rfl
theorem app_valid {a : S26} {o : Int} {cs : List S99} {hs : List Int} {m : Int} (ha : artOK a = true) (hv : dvalidB o cs hs = true) (h0 : 0 ≤ m) (h1 : m ≤ 52560000) :
    appB a o cs hs m = (decide (a.f2 ≤ minOf o cs m ∧ minOf o cs m ≤ a.f3 - 1) && bitB a.f1 (kindOfDay hs (dayOf o cs m))) := by
  have hp : ArtP a.f0 a.f1 a.f2 a.f3 a.f4 a.f5 a.f6 := of_decide_eq_true ha
  have ho := off_range (m := m) hv
  unfold appB tariff_Applies.f
  rw [Local_ok hv h0 h1, Option.bind_some]
  dsimp only
  rw [if_pos rfl, isArticle_f 7, decide_eq_true hp, Option.bind_some, if_pos rfl, between_f, Option.bind_some, wrap_fit64 (by unfold ArtP at hp; omega) (by unfold ArtP at hp; omega)]
  show Option.getD (if decide (a.f2 ≤ minOf o cs m ∧ minOf o cs m ≤ a.f3 - 1) = true then _ else _) false = _
  by_cases g : a.f2 ≤ minOf o cs m ∧ minOf o cs m ≤ a.f3 - 1
  · rw [decide_eq_true g, if_pos rfl, Bool.true_and, Type_ok hv (by omega) (by omega), Option.bind_some]
    dsimp only
    have hk := kindOfDay_range hs (dayOf o cs m)
    rw [if_pos rfl]
    show Option.getD (if 0 ≤ kindOfDay hs (dayOf o cs m) then _ else _) false = _
    rw [if_pos (by omega)]
    rfl
  · rw [decide_eq_false g, if_neg (by simp), Bool.false_and]; rfl
theorem minOf_range (o : Int) (cs : List S99) (m : Int) : 0 ≤ minOf o cs m ∧ minOf o cs m ≤ 1439 := by unfold minOf; omega
theorem app_always {a : S26} {o : Int} {cs : List S99} {hs : List Int} {m : Int} (ha : artOK a = true) (hv : dvalidB o cs hs = true) (h0 : 0 ≤ m) (h1 : m ≤ 52560000) (h7 : a.f1 = 7) (hf : a.f2 = 0) (ht : a.f3 = 1440) : appB a o cs hs m = true := by
  rw [app_valid ha hv h0 h1, h7, hf, ht]
  have := minOf_range o cs m
  rw [decide_eq_true (by omega), Bool.true_and]
  rcases kindOfDay_range hs (dayOf o cs m) with h | h | h <;> rw [h] <;> decide
/-! ### counting -/
theorem mins_all (p : Int → Bool) (f : Int) : ∀ k : Nat, (∀ i : Nat, i < k → p (f + i) = true) → (mins p f k).length = k
  | 0, _ => by simp [mins]
  | k + 1, h => by rw [mins_succ, if_pos (h k (Nat.lt_succ_self k)), List.length_append, mins_all p f k (fun i hi => h i (by omega))]; rfl
def enAll : List S50 → Int → Int
  | [], n => n
  | x :: l, n => enAll l (n + x.f1)
theorem enSum_all (p : Int → Bool) : ∀ (l : List S50) (n : Int), (∀ x ∈ l, p x.f0 = true) → enSum p l n = enAll l n
  | [], _, _ => rfl
  | x :: l, n, h => by
    show enSum p l (if p x.f0 then n + x.f1 else n) = enAll l (n + x.f1)
    rw [if_pos (h x (List.mem_cons_self ..))]
    exact enSum_all p l _ (fun y hy => h y (List.mem_cons_of_mem _ hy))
theorem enAll_bd : ∀ (l : List S50) (n : Int), (∀ x ∈ l, 0 ≤ x.f1 ∧ x.f1 ≤ 10000) → n ≤ enAll l n ∧ enAll l n ≤ n + 10000 * l.length
  | [], n, _ => by simp [enAll]
  | x :: l, n, h => by
    have h1 := h x (List.mem_cons_self ..)
    have h2 := enAll_bd l (n + x.f1) (fun y hy => h y (List.mem_cons_of_mem _ hy))
    show n ≤ enAll l (n + x.f1) ∧ enAll l (n + x.f1) ≤ _
    rw [List.length_cons]
    omega
theorem slOK_min (e : Int) : ∀ (l : List S50) (t : Int), slOK e t l = true → ∀ x ∈ l, t ≤ x.f0 ∧ x.f0 ≤ e - 1
  | [], _, _, x, hx => by cases hx
  | y :: l, t, h, x, hx => by
    rw [slOK_prev, Bool.and_eq_true, Bool.and_eq_true, decide_eq_true_eq, decide_eq_true_eq] at h
    rcases List.mem_cons.1 hx with rfl | hx
    · exact h.1
    · have := slOK_min e l _ h.2.2 x hx; omega
/-! ### amounts -/
theorem mul_bd {a b A B : Int} (ha : 0 ≤ a) (ha' : a ≤ A) (hb : 0 ≤ b) (hb' : b ≤ B) : 0 ≤ a * b ∧ a * b ≤ A * B :=
  ⟨Int.mul_nonneg ha hb, Int.mul_le_mul ha' hb' hb (by omega)⟩
theorem startedQ {q u : Int} (hq : 0 ≤ q) (hu : 1 ≤ u) : 0 ≤ (q + u - 1) / u ∧ (q + u - 1) / u ≤ q := by
  refine ⟨Int.ediv_nonneg (by omega) (by omega), ?_⟩
  have h : (q + u - 1) / u < q + 1 := Int.ediv_lt_of_lt_mul (by omega) (by
    have h1 : q * 1 ≤ q * u := Int.mul_le_mul_of_nonneg_left hu hq
    rw [Int.add_mul, Int.one_mul]; omega)
  omega
theorem times_v {a b : Int} (ha : 0 ≤ a ∧ a ≤ 1000000) (hb : 0 ≤ b ∧ b ≤ 480000) : money_Times.v a b 1000 = if (a * b + 500) / 1000 ≤ 1000000000 then ((a * b + 500) / 1000, 0) else (0, 3) := by
  obtain ⟨m0, m1⟩ := mul_bd ha.1 ha.2 hb.1 hb.2
  unfold money_Times.v halfV
  rw [decide_eq_true (by omega), wrap_fit64 (x := a * b) (by omega) (by omega), wrap_fit64 (x := 2 * (a * b)) (by omega) (by omega), wrap_fit64 (x := 2 * (a * b) + 1000) (by omega) (by omega), wrap_fit64 (x := 2 * 1000) (by omega) (by omega), Int.tdiv_eq_ediv_of_nonneg (by omega), wrap_fit64 (by omega) (by omega)]
  unfold outP
  rw [if_pos rfl, show (2 * (a * b) + 1000) / (2 * 1000) = (a * b + 500) / 1000 by omega]
  by_cases g : (a * b + 500) / 1000 ≤ 1000000000
  · rw [if_pos ⟨by omega, g⟩, if_pos g]
  · rw [if_neg (fun h => g h.2), if_neg g]
theorem started_v {a q u : Int} (ha : 0 ≤ a ∧ a ≤ 1000000) (hq : 0 ≤ q ∧ q ≤ 2880) (hu : 1 ≤ u ∧ u ≤ 1440) : money_Started.v a q u = if a * ((q + u - 1) / u) ≤ 1000000000 then (a * ((q + u - 1) / u), 0) else (0, 3) := by
  obtain ⟨y0, y1⟩ := startedQ hq.1 hu.1
  obtain ⟨m0, m1⟩ := mul_bd ha.1 ha.2 y0 (Int.le_trans y1 hq.2)
  unfold money_Started.v
  rw [decide_eq_true (by omega), wrap_fit64 (x := q + u) (by omega) (by omega), wrap_fit64 (x := q + u - 1) (by omega) (by omega), Int.tdiv_eq_ediv_of_nonneg (by omega), wrap_fit64 (x := (q + u - 1) / u) (by omega) (by omega), wrap_fit64 (x := a * ((q + u - 1) / u)) (by omega) (by omega)]
  unfold outP
  rw [if_pos rfl]
  by_cases g : a * ((q + u - 1) / u) ≤ 1000000000
  · rw [if_pos ⟨m0, g⟩, if_pos g]
  · rw [if_neg (fun h => g h.2), if_neg g]
/-! ### what Line answers -/
theorem line_ok {a : S26} {o : Int} {cs : List S99} {hs : List Int} {s0 s1 s2 : Int} {l : List S50} (ha : artOK a = true) (hv : dvalidB o cs hs = true) (hs' : svalB s0 s1 s2 l = true) :
    bill_Line.f a.f0 a.f1 a.f2 a.f3 a.f4 a.f5 a.f6 o cs hs s0 s1 s2 l = some (lineG a o cs hs s0 s1 s2 l) := by
  unfold bill_Line.f lineV
  rw [if_pos ⟨ha, hv, hs'⟩]
theorem line_bad {a : S26} {o : Int} {cs : List S99} {hs : List Int} {s0 s1 s2 : Int} {l : List S50} (h : ¬ (artOK a = true ∧ dvalidB o cs hs = true ∧ svalB s0 s1 s2 l = true)) :
    bill_Line.f a.f0 a.f1 a.f2 a.f3 a.f4 a.f5 a.f6 o cs hs s0 s1 s2 l = some (0, 1) := by
  unfold bill_Line.f lineV
  rw [if_neg h]
theorem lineG_start {a : S26} {o : Int} {cs : List S99} {hs : List Int} {s0 s1 s2 : Int} {l : List S50} (h : a.f0 = 1) : lineG a o cs hs s0 s1 s2 l = (if appB a o cs hs s0 then a.f4 else 0, 0) := by
  unfold lineG costV startV
  rw [if_pos (by omega), if_pos h]
  rfl
theorem two_pair (v : Int × Int) (h : v.2 = 0 ∨ v.1 = 0) : (if v.2 = 0 then (v.1, (0 : Int)) else (0, v.2)) = v := by
  obtain ⟨x, y⟩ := v
  dsimp only at h ⊢
  split
  · rw [‹y = 0›]
  · rcases h with h | h
    · contradiction
    · rw [h]
theorem out_two (b : Bool) (n : Int) : (outP b n).2 = 0 ∨ (outP b n).1 = 0 := by
  unfold outP; split
  · split
    · exact .inl rfl
    · exact .inr rfl
  · exact .inr rfl
theorem lineG_energy {a : S26} {o : Int} {cs : List S99} {hs : List Int} {s0 s1 s2 : Int} {l : List S50} (h : a.f0 = 2) : lineG a o cs hs s0 s1 s2 l = money_Times.v a.f4 (enSum (appB a o cs hs) l 0) 1000 := by
  unfold lineG
  rw [if_pos (by omega), show costV (appB a o cs hs) a.f0 a.f4 a.f5 a.f6 s0 s1 s2 l = money_Times.v a.f4 (enSum (appB a o cs hs) l 0) 1000 by unfold costV; rw [if_neg (by omega), if_pos h]; try rfl]
  exact two_pair _ (out_two _ _)
theorem lineG_time {a : S26} {o : Int} {cs : List S99} {hs : List Int} {s0 s1 s2 : Int} {l : List S50} (h : a.f0 = 3) : lineG a o cs hs s0 s1 s2 l = money_Started.v a.f4 (max 0 ((mins (appB a o cs hs) s0 (s1 - s0).toNat).length - a.f6)) a.f5 := by
  unfold lineG
  rw [if_pos (by omega), show costV (appB a o cs hs) a.f0 a.f4 a.f5 a.f6 s0 s1 s2 l = money_Started.v a.f4 (max 0 ((mins (appB a o cs hs) s0 (s1 - s0).toNat).length - a.f6)) a.f5 by unfold costV; rw [if_neg (by omega), if_neg (by omega), if_pos h]; try rfl]
  exact two_pair _ (out_two _ _)
theorem lineG_idle {a : S26} {o : Int} {cs : List S99} {hs : List Int} {s0 s1 s2 : Int} {l : List S50} (h : a.f0 = 4) : lineG a o cs hs s0 s1 s2 l = money_Started.v a.f4 (max 0 ((mins (appB a o cs hs) s2 (s1 - s2).toNat).length - a.f6)) a.f5 := by
  unfold lineG
  rw [if_pos (by omega), show costV (appB a o cs hs) a.f0 a.f4 a.f5 a.f6 s0 s1 s2 l = money_Started.v a.f4 (max 0 ((mins (appB a o cs hs) s2 (s1 - s2).toNat).length - a.f6)) a.f5 by unfold costV; rw [if_neg (by omega), if_neg (by omega), if_neg (by omega)]; try rfl]
  exact two_pair _ (out_two _ _)
theorem lineG_none {a : S26} {o : Int} {cs : List S99} {hs : List Int} {s0 s1 s2 : Int} {l : List S50} (h : a.f0 = 5 ∨ a.f0 = 6) : lineG a o cs hs s0 s1 s2 l = (0, 0) := by
  unfold lineG
  rw [if_neg (by omega)]
end Go.Proofs.Ytbkkgaiokmnmgaa.Pr
/- Package bill, in plain words: what the laws need beyond XPBill. -/
namespace Go.Proofs.Ytbkkgaiokmnmgaa.Pr
open Go.RowKit Go.Proofs.YtbkkgaiokmnmgaaW.PrintWords Go.Proofs.YtbkkgaiokmnmgaaW.PrintLast
set_option linter.unusedVariables false
theorem mx_max (a : Int) : mx 0 a = max 0 a := by unfold mx; omega
theorem ses_bd {s0 s1 s2 : Int} {l : List S50} (hs : svalB s0 s1 s2 l = true) : SesP s0 s1 s2 ∧ (∀ x ∈ l, 0 ≤ x.f1 ∧ x.f1 ≤ 10000) ∧ (∀ x ∈ l, s0 ≤ x.f0 ∧ x.f0 ≤ s2 - 1) ∧ 0 ≤ enAll l 0 ∧ enAll l 0 ≤ 480000 := by
  obtain ⟨h1, h2, h3⟩ := sval_iff hs
  have hb := slOK_mem _ _ _ h3
  have := enAll_bd l 0 hb
  exact ⟨h1, hb, slOK_min _ _ _ h3, by omega, by omega⟩
theorem enSum_bd (p : Int → Bool) : ∀ (l : List S50) (n : Int), (∀ x ∈ l, 0 ≤ x.f1 ∧ x.f1 ≤ 10000) → n ≤ enSum p l n ∧ enSum p l n ≤ n + 10000 * l.length
  | [], n, _ => by simp [enSum]
  | x :: l, n, h => by
    have h1 := h x (List.mem_cons_self ..)
    have h2 := enSum_bd p l (if p x.f0 then n + x.f1 else n) (fun y hy => h y (List.mem_cons_of_mem _ hy))
    show n ≤ enSum p l (if p x.f0 then n + x.f1 else n) ∧ enSum p l (if p x.f0 then n + x.f1 else n) ≤ _
    rw [List.length_cons]
    by_cases c : p x.f0 = true
    · rw [if_pos c] at h2 ⊢; omega
    · rw [if_neg c] at h2 ⊢; omega
theorem enSum_two (p p1 p2 : Int → Bool) : ∀ (l : List S50) (n1 n2 : Int), (∀ x ∈ l, (if p x.f0 then x.f1 else 0) = (if p1 x.f0 then x.f1 else 0) + (if p2 x.f0 then x.f1 else 0)) → enSum p l (n1 + n2) = enSum p1 l n1 + enSum p2 l n2
  | [], _, _, _ => rfl
  | x :: l, n1, n2, h => by
    have h1 := h x (List.mem_cons_self ..)
    have h2 := enSum_two p p1 p2 l (if p1 x.f0 then n1 + x.f1 else n1) (if p2 x.f0 then n2 + x.f1 else n2) (fun y hy => h y (List.mem_cons_of_mem _ hy))
    show enSum p l (if p x.f0 then n1 + n2 + x.f1 else n1 + n2) = enSum p1 l (if p1 x.f0 then n1 + x.f1 else n1) + enSum p2 l (if p2 x.f0 then n2 + x.f1 else n2)
    rw [← h2]
    congr 1
    by_cases c0 : p x.f0 = true <;> by_cases c1 : p1 x.f0 = true <;> by_cases c2 : p2 x.f0 = true <;> simp only [c0, c1, c2, if_true, if_false, Bool.false_eq_true] at h1 ⊢ <;> omega
theorem enSum_len {s0 s1 s2 : Int} {l : List S50} (p : Int → Bool) (hs : svalB s0 s1 s2 l = true) : 0 ≤ enSum p l 0 ∧ enSum p l 0 ≤ 480000 := by
  obtain ⟨h1, h2, h3⟩ := sval_iff hs
  have := enSum_bd p l 0 (slOK_mem _ _ _ h3)
  omega
theorem mins_le (p : Int → Bool) (f : Int) : ∀ k : Nat, (mins p f k).length ≤ k
  | 0 => by simp [mins]
  | k + 1 => by
    have := mins_le p f k
    rw [mins_succ]
    split
    · rw [List.length_append]; simp only [List.length_cons, List.length_nil]; omega
    · omega
theorem mins_drop (p : Int → Bool) (f : Int) (j : Nat) : ∀ k : Nat, (mins p (f + j) k).length ≤ (mins p f (j + k)).length
  | 0 => by simp [mins]
  | k + 1 => by
    have := mins_drop p f j k
    rw [mins_succ, ← Nat.add_assoc, mins_succ, show f + (j : Int) + (k : Int) = f + ((j + k : Nat) : Int) by omega]
    split
    · rw [List.length_append, List.length_append]; omega
    · exact this
/-- Hours, with two frees and two units. -/
theorem ceil_mono {q q' u u' : Int} (hq : 0 ≤ q') (hqq : q' ≤ q) (hu : 1 ≤ u) (huu : u ≤ u') : (q' + u' - 1) / u' ≤ (q + u - 1) / u := by
  obtain ⟨y0, y1⟩ := startedQ (show 0 ≤ q by omega) hu
  have hx : (q + u - 1) / u * u ≤ q + u - 1 := Int.ediv_mul_le _ (by omega)
  have hx2 : q + u - 1 < ((q + u - 1) / u + 1) * u := Int.lt_ediv_add_one_mul_self _ (by omega)
  refine Int.le_of_lt_add_one (Int.ediv_lt_of_lt_mul (by omega) ?_)
  have h3 : (q + u - 1) / u * u ≤ (q + u - 1) / u * u' := Int.mul_le_mul_of_nonneg_left huu y0
  rw [Int.add_mul, Int.one_mul] at hx2 ⊢
  omega
end Go.Proofs.Ytbkkgaiokmnmgaa.Pr
