/- If there is no change after a minute up to a later one, the local minutes are as far apart; 1440 minutes later it is the same minute of the next day; and within 1440 minutes the day is the same or the next one: for every calendar that the reference finds valid. -/
import Derived.Test.YtnbfjdfmpadndaaPrx13
import Derived.Test.YtnbfjdfmpadndaaPrOpn
import Derived.Test.YtnbfjdfmpadndaaPDays
import Derived.Test.YtnbfjdfmpadndaaPrx12
namespace Go.Proofs.Ytnbfjdfmpadndaa.Pure
open Go.RowKit Go.Proofs.Ytnbfjdfmpadndaa.Pr Go.Proofs.YtnbfjdfmpadndaaW.PrintWords Go.Proofs.YtnbfjdfmpadndaaW.PrintLast

theorem change_l0 (f t : Int) (cs : List S37) (hl : cs.length ≤ 9223372036854775807) : ∀ (d k : Nat) (i : Int), 0 ≤ i → i ≤ cs.length → (cs.length : Int) - i = d → d < k →
    chargeparklaw26_change.l0 k f t cs cs.length i = some ((cs.drop i.toNat).any fun x => decide (f < x.f0) && decide (x.f0 ≤ t)) := by
  intro d
  induction d with
  | zero =>
    intro k i h0 h1 hd hk
    obtain ⟨k, rfl⟩ : ∃ m, k = m + 1 := ⟨k - 1, by omega⟩
    simp only [chargeparklaw26_change.l0]
    rw [if_neg (by omega), List.drop_eq_nil_of_le (by omega)]
    rfl
  | succ d ih =>
    intro k i h0 h1 hd hk
    obtain ⟨k, rfl⟩ : ∃ m, k = m + 1 := ⟨k - 1, by omega⟩
    have hlt : i < (cs.length : Int) := by omega
    rw [drop_rd h0 hlt, List.any_cons]
    simp only [chargeparklaw26_change.l0]
    rw [if_pos hlt, if_pos h0, if_pos hlt, wrap_id (x := i + 1) (by omega) (by omega), ih k (i + 1) (by omega) (by omega) (by omega) (by omega)]
    by_cases c : (rd_T37 cs i).f0 > f
    · rw [if_pos c, decide_eq_true (show f < (rd_T37 cs i).f0 from c), Bool.true_and]
      by_cases c2 : (rd_T37 cs i).f0 ≤ t
      · rw [if_pos c2, decide_eq_true c2, Bool.true_or]
      · rw [if_neg c2, decide_eq_false c2, Bool.false_or]
    · rw [if_neg c, decide_eq_false (show ¬ f < (rd_T37 cs i).f0 from c), Bool.false_and, Bool.false_or]
theorem change_f (o f t : Int) (cs : List S37) (hs : List Int) (hl : cs.length ≤ 16) : chargeparklaw26_change.f 69 o cs hs f t = some (cs.any fun x => decide (f < x.f0) && decide (x.f0 ≤ t)) := by
  unfold chargeparklaw26_change.f
  rw [change_l0 f t cs (by omega) cs.length 69 0 (by omega) (by omega) (by omega) (by omega)]
  rfl
theorem calm_off {f t m : Int} (h0 : f ≤ m) (h1 : m ≤ t) : ∀ (o : Int) (cs : List S37), (cs.any fun x => decide (f < x.f0) && decide (x.f0 ≤ t)) = false → offAt m o cs = offAt f o cs
  | _, [], _ => rfl
  | o, x :: r, h => by
    rw [List.any_cons, Bool.or_eq_false_iff] at h
    rw [offAt, offAt, calm_off h0 h1 _ r h.2, calm_off h0 h1 _ r h.2]
    have hx := h.1
    simp only [Bool.and_eq_false_iff, decide_eq_false_iff_not] at hx
    by_cases c : x.f0 ≤ f
    · rw [if_pos c, if_pos (by omega)]
    · rw [if_neg c, if_neg (by omega)]
theorem calm_j0 (m k : Int) (up : Bool) (o : Int) (cs : List S37) (hs : List Int) (hv : dvalidB o cs hs = true) (m0 : 0 ≤ m) (m1 : m ≤ 52540000) (k0 : m ≤ k) (k1 : k < m + 1440) (hc : (cs.any fun x => decide (m < x.f0) && decide (x.f0 ≤ m + 1440)) = false) :
    chargeparklaw26_DaysCalm.j0 70 up m k false o cs hs = some up := by
  have e1 := calm_off (m := k) k0 (by omega) o cs hc
  have e2 := calm_off (m := m + 1440) (by omega) (Int.le_refl _) o cs hc
  have hr := off_range (m := m) hv
  simp only [chargeparklaw26_DaysCalm.j0]
  rw [if_neg (by simp), local26 hv m0 (by omega), local26 hv (m := k) (by omega) (by omega), wrap_id (x := m + 1440) (by omega) (by omega)]
  unfold days_Local.f
  rw [if_pos ⟨m0, by omega, hv⟩, if_pos ⟨by omega, by omega, hv⟩, if_pos ⟨by omega, by omega, hv⟩, e1, e2]
  generalize offAt m o cs = q at hr ⊢
  simp only [Option.bind_some, if_true]
  rw [wrap_id (x := k + q - (m + q)) (by omega) (by omega), wrap_id (x := k - m) (by omega) (by omega), wrap_id (x := (m + q + 1440) / 1440 - 1 + 1) (by omega) (by omega), if_pos (show k + q - (m + q) = k - m by omega), if_pos (show (m + 1440 + q + 1440) / 1440 - 1 = (m + q + 1440) / 1440 - 1 + 1 by omega), if_pos (show (m + 1440 + q + 1440) % 1440 = (m + q + 1440) % 1440 by omega)]
  cases up
  · rfl
  · rw [if_pos rfl]
    by_cases c : (k + q + 1440) / 1440 - 1 = (m + q + 1440) / 1440 - 1
    · rw [if_pos c]
    · rw [if_neg c, beq_iff_eq.2 (by omega)]
theorem DaysCalm :
    ∀ (a0_0 : Int) (l0_1 : List (S37)) (l0_2 : List Int) (a1 : Int) (a2 : Int), (Lit.int .i64 a0_0).wf = true → l0_1.length ≤ maxLen → l0_1.length * 16 ≤ 140737488351232 → (∀ x ∈ l0_1, Wf37 x) → l0_2.length ≤ maxLen → l0_2.length * 8 ≤ 140737488351232 → (∀ x ∈ l0_2, (Lit.int .i64 x).wf = true) → (Lit.int .u32 a1).wf = true → (Lit.int .u16 a2).wf = true → ∃ k, chargeparklaw26_DaysCalm.f k a0_0 l0_1 l0_2 a1 a2 = some true := by
  intro o cs hs n l _ _ _ _ _ _ _ hn hl
  refine ⟨70, ?_⟩
  obtain ⟨m, hm, m0, m1⟩ := minute26 hn
  have hb : 0 ≤ l ∧ l ≤ 65535 := by simp [Lit.wf, IntKind.min, IntKind.max, IntKind.bits, IntKind.signed] at hl; omega
  unfold chargeparklaw26_DaysCalm.f
  rw [head26 69, Option.bind_some, hm, Option.bind_some, usable26 _ _ _ _ (by omega), Option.bind_some, wrap_id (x := l) (by omega) (by omega), Int.tmod_eq_emod_of_nonneg (by omega), wrap_id (x := m + l % 1440) (by omega) (by omega)]
  cases hv : dvalidB o cs hs with
  | false => rw [if_neg (by simp)]; simp only [chargeparklaw26_DaysCalm.j0]; rfl
  | true =>
    have hc := (dvalidB_iff.1 hv).2.1
    rw [if_pos rfl, wrap_id (x := m + 1440) (by omega) (by omega)]
    have := change_l0 m (m + 1440) cs (by omega) cs.length 70 0 (by omega) (by omega) (by omega) (by omega)
    unfold chargeparklaw26_change.f
    rw [this, Option.bind_some, show (0 : Int).toNat = 0 from rfl, List.drop_zero]
    cases ha : (cs.any fun x => decide (m < x.f0) && decide (x.f0 ≤ m + 1440)) with
    | true => simp only [chargeparklaw26_DaysCalm.j0]; rfl
    | false => exact calm_j0 m _ true o cs hs hv m0 (by omega) (by omega) (by omega) ha

end Go.Proofs.Ytnbfjdfmpadndaa.Pure
