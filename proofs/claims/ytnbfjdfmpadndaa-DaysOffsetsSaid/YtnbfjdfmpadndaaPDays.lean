/- The calendar, in plain words: what the reference computes is what the package computes; facts on valid calendars. -/
import Derived.Test.YtnbfjdfmpadndaaHDaysL
import Derived.Test.YtnbfjdfmpadndaaPrx4
import Derived.Test.YtnbfjdfmpadndaaPrx6
import Derived.Test.YtnbfjdfmpadndaaPrx7
import Derived.Test.YtnbfjdfmpadndaaPrx9
import Derived.Test.YtnbfjdfmpadndaaPrx10
import Derived.Test.YtnbfjdfmpadndaaPrOpn
namespace Go.Proofs.Ytnbfjdfmpadndaa.Pr
open Go.RowKit Go.Proofs.YtnbfjdfmpadndaaW.PrintWords Go.Proofs.YtnbfjdfmpadndaaW.PrintLast
set_option linter.unusedVariables false

theorem wrap_id {x : Int} (h0 : -9223372036854775808 ≤ x) (h1 : x ≤ 9223372036854775807) : wrap64 x = x := by unfold wrap64; omega
theorem head26 (k : Nat) : chargeparklaw26_head.f (k + 1) = some true := by kernel_rfl

/-! ### the reference's Valid -/
theorem refOff (n : Int) : chargeparkref26_offset.f n = some (offB n) := by
  unfold chargeparkref26_offset.f offB
  by_cases h : n ≥ -1440 <;> simp [h]
theorem refValid_l1 (o : Int) (cs : List S37) (hs : List Int) (hl : hs.length ≤ 32) : ∀ (d k : Nat) (i last : Int), 0 ≤ i → i ≤ hs.length → (hs.length : Int) - i = d → d < k → -1 ≤ last → (i = 0 → last = -1) → (0 < i → last = rd hs (i - 1) ∧ 0 ≤ last) →
    chargeparkref26_Valid.l1 k i o cs hs = some (ascB 36500 last (hs.drop i.toNat)) := by
  intro d
  induction d with
  | zero =>
    intro k i last h0 h1 hd hk hg hz hp
    obtain ⟨k, rfl⟩ : ∃ m, k = m + 1 := ⟨k - 1, by omega⟩
    simp only [chargeparkref26_Valid.l1]
    rw [if_neg (by omega), List.drop_eq_nil_of_le (by omega)]
    rfl
  | succ d ih =>
    intro k i last h0 h1 hd hk hg hz hp
    obtain ⟨k, rfl⟩ : ∃ m, k = m + 1 := ⟨k - 1, by omega⟩
    have hlt : i < (hs.length : Int) := by omega
    rw [drop_rdI h0 hlt, ascB]
    simp only [chargeparkref26_Valid.l1]
    rw [if_pos hlt, if_pos h0]
    by_cases c1 : rd hs i < 0
    · rw [if_pos c1, decide_eq_false (show ¬ last < rd hs i by omega), Bool.false_and]
    rw [if_neg c1]
    by_cases c2 : rd hs i > 36500
    · rw [if_pos c2, decide_eq_false (show ¬ rd hs i ≤ 36500 by omega), Bool.false_and, Bool.and_false]
    rw [if_neg c2, decide_eq_true (show rd hs i ≤ 36500 by omega), Bool.true_and]
    have hih := ih k (i + 1) (rd hs i) (by omega) (by omega) (by omega) (by omega) (by omega) (by omega) (fun _ => ⟨by rw [Int.add_sub_cancel], by omega⟩)
    rw [wrap_id (x := i + 1) (by omega) (by omega)]
    by_cases c3 : i > 0
    · obtain ⟨hp1, hp2⟩ := hp c3
      rw [if_pos c3, wrap_id (by omega) (by omega), if_pos (by omega), if_pos (by omega), ← hp1]
      by_cases c4 : rd hs i ≤ last
      · rw [if_pos c4, decide_eq_false (show ¬ last < rd hs i by omega), Bool.false_and]
      · rw [if_neg c4, decide_eq_true (show last < rd hs i by omega), Bool.true_and]
        exact hih
    · rw [if_neg c3, decide_eq_true (show last < rd hs i by have := hz (by omega); omega), Bool.true_and]
      exact hih
theorem refValid_l0 (o : Int) (cs : List S37) (hs : List Int) (hl : hs.length ≤ 32) (hc : cs.length ≤ 16) : ∀ (d k : Nat) (i last : Int), 0 ≤ i → i ≤ cs.length → (cs.length : Int) - i = d → d + 33 < k → -1 ≤ last → (i = 0 → last = -1) → (0 < i → last = (rd_T37 cs (i - 1)).f0 ∧ 0 ≤ last) →
    chargeparkref26_Valid.l0 k i o cs hs = some ((cs.drop i.toNat).all (fun x => offB x.f1) && (ascB 52560000 last ((cs.drop i.toNat).map (·.f0)) && ascB 36500 (-1) hs)) := by
  intro d
  induction d with
  | zero =>
    intro k i last h0 h1 hd hk hg hz hp
    obtain ⟨k, rfl⟩ : ∃ m, k = m + 1 := ⟨k - 1, by omega⟩
    simp only [chargeparkref26_Valid.l0]
    rw [if_neg (by omega), List.drop_eq_nil_of_le (by omega), refValid_l1 o cs hs hl hs.length k 0 (-1) (by omega) (by omega) (by omega) (by omega) (by omega) (by omega) (by omega)]
    rfl
  | succ d ih =>
    intro k i last h0 h1 hd hk hg hz hp
    obtain ⟨k, rfl⟩ : ∃ m, k = m + 1 := ⟨k - 1, by omega⟩
    have hlt : i < (cs.length : Int) := by omega
    rw [drop_rd h0 hlt, List.all_cons, List.map_cons, ascB]
    simp only [chargeparkref26_Valid.l0]
    rw [if_pos hlt, if_pos h0, refOff, Option.bind_some]
    cases c0 : offB (rd_T37 cs i).f1 with
    | false => rw [if_neg (by simp), Bool.false_and, Bool.false_and]
    | true =>
    rw [if_pos rfl, Bool.true_and]
    generalize hx : (rd_T37 cs i).f0 = x
    by_cases c1 : x < 0
    · rw [if_pos c1, decide_eq_false (show ¬ last < x by omega), Bool.false_and, Bool.false_and, Bool.and_false]
    rw [if_neg c1]
    by_cases c2 : x > 52560000
    · rw [if_pos c2, decide_eq_false (show ¬ x ≤ 52560000 by omega), Bool.false_and, Bool.and_false, Bool.false_and, Bool.and_false]
    rw [if_neg c2, decide_eq_true (show x ≤ 52560000 by omega), Bool.true_and]
    have hih := ih k (i + 1) x (by omega) (by omega) (by omega) (by omega) (by omega) (by omega) (fun _ => ⟨by rw [Int.add_sub_cancel, hx], by omega⟩)
    rw [wrap_id (x := i + 1) (by omega) (by omega)]
    by_cases c3 : i > 0
    · obtain ⟨hp1, hp2⟩ := hp c3
      rw [if_pos c3, wrap_id (by omega) (by omega), if_pos (by omega), if_pos (by omega), ← hp1]
      by_cases c4 : x ≤ last
      · rw [if_pos c4, decide_eq_false (show ¬ last < x by omega), Bool.false_and, Bool.false_and, Bool.and_false]
      · rw [if_neg c4, decide_eq_true (show last < x by omega), Bool.true_and]
        exact hih
    · rw [if_neg c3, decide_eq_true (show last < x by have := hz (by omega); omega), Bool.true_and]
      exact hih
theorem refValid (o : Int) (cs : List S37) (hs : List Int) (k : Nat) (hk : 60 ≤ k) : chargeparkref26_Valid.f k o cs hs = some (dvalidB o cs hs) := by
  obtain ⟨k, rfl⟩ : ∃ m, k = m + 1 := ⟨k - 1, by omega⟩
  unfold chargeparkref26_Valid.f dvalidB
  rw [refOff, Option.bind_some]
  cases c0 : offB o with
  | false => rw [if_neg (by simp)]; simp only [chargeparkref26_Valid.j0]; rfl
  | true =>
  rw [if_pos rfl, Bool.true_and]
  by_cases c1 : (cs.length : Int) > 16
  · rw [if_pos c1, decide_eq_false (show ¬ cs.length ≤ 16 by omega), Bool.false_and]; simp only [chargeparkref26_Valid.j0]; rfl
  rw [if_neg c1, decide_eq_true (show cs.length ≤ 16 by omega), Bool.true_and]
  by_cases c2 : (hs.length : Int) > 32
  · rw [decide_eq_true c2, decide_eq_false (show ¬ hs.length ≤ 32 by omega), Bool.false_and]; simp only [chargeparkref26_Valid.j0]; rfl
  rw [decide_eq_false c2, decide_eq_true (show hs.length ≤ 32 by omega), Bool.true_and]
  simp only [chargeparkref26_Valid.j0]
  rw [if_neg (by simp), refValid_l0 o cs hs (by omega) (by omega) cs.length k 0 (-1) (by omega) (by omega) (by omega) (by omega) (by omega) (by omega) (by omega)]
  rfl

/-! ### the reference's Offset, Local, Type -/
theorem refOffset_l0 (m o : Int) (cs : List S37) (hs : List Int) (hc : cs.length ≤ 16) : ∀ (d k : Nat) (i n : Int), 0 ≤ i → i ≤ cs.length → (cs.length : Int) - i = d → d < k →
    chargeparkref26_Offset.l0 k m n i o cs hs = some (offAt m n (cs.drop i.toNat)) := by
  intro d
  induction d with
  | zero =>
    intro k i n h0 h1 hd hk
    obtain ⟨k, rfl⟩ : ∃ m, k = m + 1 := ⟨k - 1, by omega⟩
    simp only [chargeparkref26_Offset.l0]
    rw [if_neg (by omega), List.drop_eq_nil_of_le (by omega)]
    rfl
  | succ d ih =>
    intro k i n h0 h1 hd hk
    obtain ⟨k, rfl⟩ : ∃ m, k = m + 1 := ⟨k - 1, by omega⟩
    have hlt : i < (cs.length : Int) := by omega
    rw [drop_rd h0 hlt, offAt]
    simp only [chargeparkref26_Offset.l0]
    rw [if_pos hlt, if_pos h0, wrap_id (x := i + 1) (by omega) (by omega), ih k (i + 1) _ (by omega) (by omega) (by omega) (by omega), ih k (i + 1) _ (by omega) (by omega) (by omega) (by omega)]
    split <;> rfl
theorem refOffset (m o : Int) (cs : List S37) (hs : List Int) (hc : cs.length ≤ 16) (k : Nat) (hk : 20 ≤ k) : chargeparkref26_Offset.f k o cs hs m = some (offAt m o cs) := by
  unfold chargeparkref26_Offset.f
  rw [refOffset_l0 m o cs hs hc cs.length k 0 o (by omega) (by omega) (by omega) (by omega)]
  rfl
theorem off_range {m o : Int} {cs : List S37} {hs : List Int} (h : dvalidB o cs hs = true) : -1440 ≤ offAt m o cs ∧ offAt m o cs ≤ 1440 := by
  obtain ⟨v0, v1, _, v3, v4, _⟩ := dvalidB_iff.1 h
  exact offB_iff.1 (offAt_range m o cs v0 v3)
theorem refLocal (o : Int) (cs : List S37) (hs : List Int) (m : Int) (k : Nat) (hk : 70 ≤ k) : chargeparkref26_Local.f k o cs hs m = days_Local.f o cs hs m := by
  obtain ⟨k, rfl⟩ : ∃ m, k = m + 1 := ⟨k - 1, by omega⟩
  unfold chargeparkref26_Local.f days_Local.f
  rw [refValid _ _ _ _ (by omega), Option.bind_some]
  cases hv : dvalidB o cs hs with
  | false => rw [if_neg (by simp), if_neg (by simp)]; simp only [chargeparkref26_Local.j0]; rfl
  | true =>
    rw [if_pos rfl]
    by_cases c0 : m < 0
    · rw [if_pos c0, if_neg (by omega)]; simp only [chargeparkref26_Local.j0]; rfl
    rw [if_neg c0]
    by_cases c1 : m > 52560000
    · rw [decide_eq_true c1, if_neg (by omega)]; simp only [chargeparkref26_Local.j0]; rfl
    rw [decide_eq_false c1, if_pos ⟨by omega, by omega, rfl⟩]
    simp only [chargeparkref26_Local.j0]
    have hr := off_range (m := m) hv
    rw [if_neg (by simp), refOffset m o cs hs (dvalidB_iff.1 hv).2.1 k (by omega), Option.bind_some]
    generalize offAt m o cs = q at hr ⊢
    rw [wrap_id (x := m + q) (by omega) (by omega)]
    by_cases c2 : m + q < 0
    · rw [if_pos c2, wrap_id (by omega) (by omega), show (m + q + 1440) / 1440 - 1 = -1 by omega, show (m + q + 1440) % 1440 = m + q - 1440 * -1 by omega]
    · rw [if_neg c2, Int.tdiv_eq_ediv_of_nonneg (by omega), wrap_id (x := (m + q) / 1440) (by omega) (by omega), wrap_id (x := 1440 * ((m + q) / 1440)) (by omega) (by omega), wrap_id (by omega) (by omega), show (m + q + 1440) / 1440 - 1 = (m + q) / 1440 by omega, show (m + q + 1440) % 1440 = m + q - 1440 * ((m + q) / 1440) by omega]
theorem refType_l0 (day o : Int) (cs : List S37) (hs : List Int) (hc : hs.length ≤ 32) (hd0 : -1 ≤ day) (hd1 : day ≤ 36501) : ∀ (d k : Nat) (i : Int), 0 ≤ i → i ≤ hs.length → (hs.length : Int) - i = d → d < k →
    chargeparkref26_Type.l0 k day i o cs hs = some (if (hs.drop i.toNat).contains day then 2 else weekOf day, 0) := by
  intro d
  induction d with
  | zero =>
    intro k i h0 h1 hd hk
    obtain ⟨k, rfl⟩ : ∃ m, k = m + 1 := ⟨k - 1, by omega⟩
    simp only [chargeparkref26_Type.l0]
    rw [if_neg (by omega), List.drop_eq_nil_of_le (by omega), wrap_id (by omega) (by omega), Int.tmod_eq_emod_of_nonneg (by omega)]
    unfold weekOf
    split
    · rfl
    · split <;> rfl
  | succ d ih =>
    intro k i h0 h1 hd hk
    obtain ⟨k, rfl⟩ : ∃ m, k = m + 1 := ⟨k - 1, by omega⟩
    have hlt : i < (hs.length : Int) := by omega
    rw [drop_rdI h0 hlt, List.contains_cons]
    simp only [chargeparkref26_Type.l0]
    rw [if_pos hlt, if_pos h0]
    by_cases c : rd hs i = day
    · rw [if_pos c, c, beq_self_eq_true, Bool.true_or]; rfl
    · rw [if_neg c, beq_eq_false_iff_ne.2 (Ne.symm c), Bool.false_or, wrap_id (x := i + 1) (by omega) (by omega)]
      exact ih k (i + 1) (by omega) (by omega) (by omega) (by omega)
theorem refType (o : Int) (cs : List S37) (hs : List Int) (m : Int) (k : Nat) (hk : 70 ≤ k) : chargeparkref26_Type.f k o cs hs m = days_Type.f o cs hs m := by
  obtain ⟨k, rfl⟩ : ∃ m, k = m + 1 := ⟨k - 1, by omega⟩
  unfold chargeparkref26_Type.f days_Type.f
  rw [refValid _ _ _ _ (by omega), Option.bind_some]
  cases hv : dvalidB o cs hs with
  | false => rw [if_neg (by simp), if_neg (by simp)]; simp only [chargeparkref26_Type.j0]; rfl
  | true =>
    rw [if_pos rfl]
    by_cases c0 : m < -1
    · rw [if_pos c0, if_neg (by omega)]; simp only [chargeparkref26_Type.j0]; rfl
    rw [if_neg c0]
    by_cases c1 : m > 36501
    · rw [decide_eq_true c1, if_neg (by omega)]; simp only [chargeparkref26_Type.j0]; rfl
    rw [decide_eq_false c1, if_pos ⟨by omega, by omega, rfl⟩]
    simp only [chargeparkref26_Type.j0]
    have hl := (dvalidB_iff.1 hv).2.2.1
    rw [if_neg (by simp), refType_l0 m o cs hs hl (by omega) (by omega) hs.length k 0 (by omega) (by omega) (by omega) (by omega)]
    rfl
theorem refFew (o : Int) (cs : List S37) (hs : List Int) : chargeparkref26_Few.f o cs hs = some (decide (cs.length ≤ 30) && decide (hs.length ≤ 60)) := by
  unfold chargeparkref26_Few.f
  by_cases h : (cs.length : Int) ≤ 30
  · rw [if_pos h, decide_eq_true (show cs.length ≤ 30 by omega), Bool.true_and]
    congr 1
    exact decide_eq_decide.2 (by omega)
  · rw [if_neg h, decide_eq_false (show ¬ cs.length ≤ 30 by omega), Bool.false_and]
theorem usable26 (o : Int) (cs : List S37) (hs : List Int) (k : Nat) (hk : 60 ≤ k) : chargeparklaw26_usable.f k o cs hs = some (dvalidB o cs hs) := by
  unfold chargeparklaw26_usable.f
  rw [refFew, Option.bind_some]
  by_cases h : (decide (cs.length ≤ 30) && decide (hs.length ≤ 60)) = true
  · rw [if_pos h, refValid _ _ _ _ hk]; rfl
  · rw [if_neg h]
    cases hv : dvalidB o cs hs with
    | false => rfl
    | true =>
      obtain ⟨_, h1, h2, _⟩ := dvalidB_iff.1 hv
      exact absurd (by simp; omega) h
theorem minute26 {n : Int} (h : (Lit.int .u32 n).wf = true) : ∃ m, chargeparklaw26_minute.f n = some m ∧ 0 ≤ m ∧ m < 52540000 := by
  have hb : 0 ≤ n ∧ n ≤ 4294967295 := by simp [Lit.wf, IntKind.min, IntKind.max, IntKind.bits, IntKind.signed] at h; omega
  refine ⟨n % 52540000, ?_, by omega, by omega⟩
  unfold chargeparklaw26_minute.f
  rw [wrap_id (by omega) (by omega), Int.tmod_eq_emod_of_nonneg (by omega)]
/-- The local minute of a minute of a valid calendar. -/
theorem local26 {o : Int} {cs : List S37} {hs : List Int} {m : Int} (hv : dvalidB o cs hs = true) (h0 : 0 ≤ m) (h1 : m ≤ 52560000) : chargeparklaw26_local.f o cs hs m = some (m + offAt m o cs, true) := by
  have hr := off_range (m := m) hv
  unfold chargeparklaw26_local.f days_Local.f
  rw [if_pos ⟨h0, h1, hv⟩, Option.bind_some]
  generalize offAt m o cs = q at hr ⊢
  simp only [if_true]
  rw [if_pos (by omega), wrap_id (x := 1440 * ((m + q + 1440) / 1440 - 1)) (by omega) (by omega), wrap_id (by omega) (by omega)]
  rw [decide_eq_true (show (m + q + 1440) % 1440 < 1440 by omega)]
  simp only [Option.some.injEq, Prod.mk.injEq, and_true]
  omega
theorem Local_ok {o : Int} {cs : List S37} {hs : List Int} {m : Int} (hv : dvalidB o cs hs = true) (h0 : 0 ≤ m) (h1 : m ≤ 52560000) : days_Local.f o cs hs m = some ((m + offAt m o cs + 1440) / 1440 - 1, (m + offAt m o cs + 1440) % 1440, 0) := by
  unfold days_Local.f
  rw [if_pos ⟨h0, h1, hv⟩]
theorem Type_ok {o : Int} {cs : List S37} {hs : List Int} {d : Int} (hv : dvalidB o cs hs = true) (h0 : -1 ≤ d) (h1 : d ≤ 36501) : days_Type.f o cs hs d = some (if hs.contains d then 2 else weekOf d, 0) := by
  unfold days_Type.f
  rw [if_pos ⟨h0, h1, hv⟩]
end Go.Proofs.Ytnbfjdfmpadndaa.Pr
