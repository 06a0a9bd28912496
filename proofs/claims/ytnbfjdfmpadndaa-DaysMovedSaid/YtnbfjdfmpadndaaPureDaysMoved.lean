/- If all offsets are greater by 1440, and stay valid, the local day of a minute is the next one, and its minute of the day the same; and this day has a type: for every calendar that the reference finds valid. -/
import Derived.Test.YtnbfjdfmpadndaaPrx16
import Derived.Test.YtnbfjdfmpadndaaPrOpn
import Derived.Test.YtnbfjdfmpadndaaPDays
namespace Go.Proofs.Ytnbfjdfmpadndaa.Pure
open Go.RowKit Go.Proofs.Ytnbfjdfmpadndaa.Pr Go.Proofs.YtnbfjdfmpadndaaW.PrintWords Go.Proofs.YtnbfjdfmpadndaaW.PrintLast

def movedL (cs : List S37) : List S37 := cs.map fun x => ⟨x.f0, x.f1 + 1440⟩
theorem offAt_moved (m : Int) : ∀ (o : Int) (cs : List S37), offAt m (o + 1440) (movedL cs) = offAt m o cs + 1440
  | _, [] => rfl
  | o, x :: r => by
    rw [movedL, List.map_cons, offAt, offAt]
    split
    · exact offAt_moved m _ r
    · exact offAt_moved m _ r
theorem moved_l0 (n m o : Int) (up : Bool) (cs : List S37) (hs : List Int) (hv : dvalidB o cs hs = true) (hm : chargeparklaw26_minute.f n = some m) (m0 : 0 ≤ m) (m1 : m < 52540000) : ∀ (d k : Nat) (i : Int) (more : List S37), 0 ≤ i → i ≤ cs.length → (cs.length : Int) - i = d → d + 60 < k → more.length = i → more ++ movedL (cs.drop i.toNat) = movedL cs →
    chargeparklaw26_DaysMoved.l0 k n up cs cs.length i o cs hs (o + 1440) more hs = some up := by
  intro d
  have hl := (dvalidB_iff.1 hv).2.1
  induction d with
  | zero =>
    intro k i more h0 h1 hd hk hi hj
    obtain ⟨k, rfl⟩ : ∃ m, k = m + 1 := ⟨k - 1, by omega⟩
    rw [List.drop_eq_nil_of_le (by omega)] at hj
    obtain rfl : more = movedL cs := by simpa [movedL] using hj
    simp only [chargeparklaw26_DaysMoved.l0]
    rw [if_neg (by omega), refValid _ _ _ _ (by omega), Option.bind_some]
    cases hw : dvalidB (o + 1440) (movedL cs) hs with
    | false => rfl
    | true =>
      have hr := off_range (m := m) hv
      have hr2 := off_range (m := m) hw
      rw [if_pos rfl, hm]
      simp only [Option.bind_some]
      rw [Local_ok hv m0 (by omega), Local_ok hw m0 (by omega)]
      rw [offAt_moved] at hr2 ⊢
      generalize offAt m o cs = q at hr hr2 ⊢
      simp only [Option.bind_some]
      rw [Type_ok hv (by omega) (by omega)]
      simp only [Option.bind_some, if_true]
      rw [wrap_id (x := (m + q + 1440) / 1440 - 1 + 1) (by omega) (by omega), if_pos (show (m + (q + 1440) + 1440) / 1440 - 1 = (m + q + 1440) / 1440 - 1 + 1 by omega), show (m + (q + 1440) + 1440) % 1440 = (m + q + 1440) % 1440 by omega, beq_self_eq_true]
      cases up <;> rfl
  | succ d ih =>
    intro k i more h0 h1 hd hk hi hj
    obtain ⟨k, rfl⟩ : ∃ m, k = m + 1 := ⟨k - 1, by omega⟩
    have hlt : i < (cs.length : Int) := by omega
    have hit : i.toNat < cs.length := by omega
    have hx : rd_T37 cs i ∈ cs := by unfold rd_T37; rw [List.getD_eq_getElem?_getD, List.getElem?_eq_getElem hit]; exact List.getElem_mem _
    have hxo := offB_iff.1 ((dvalidB_iff.1 hv).2.2.2.1 _ hx)
    rw [drop_rd h0 hlt] at hj
    simp only [chargeparklaw26_DaysMoved.l0]
    rw [if_pos hlt, if_pos h0, if_pos hlt, if_pos (by omega), wrap_id (x := i + 1) (by omega) (by omega), wrap_id (x := (rd_T37 cs i).f1 + 1440) (by omega) (by omega)]
    refine ih k (i + 1) _ (by omega) (by omega) (by omega) (by omega) (by simp; omega) ?_
    rw [← hj, List.append_assoc]
    rfl
theorem DaysMoved :
    ∀ (a0_0 : Int) (l0_1 : List (S37)) (l0_2 : List Int) (a1 : Int), (Lit.int .i64 a0_0).wf = true → l0_1.length ≤ maxLen → l0_1.length * 16 ≤ 140737488351232 → (∀ x ∈ l0_1, Wf37 x) → l0_2.length ≤ maxLen → l0_2.length * 8 ≤ 140737488351232 → (∀ x ∈ l0_2, (Lit.int .i64 x).wf = true) → (Lit.int .u32 a1).wf = true → ∃ k, chargeparklaw26_DaysMoved.f k a0_0 l0_1 l0_2 a1 = some true := by
  intro o cs hs n ho _ _ _ _ _ _ hn
  refine ⟨80, ?_⟩
  obtain ⟨m, hm, m0, m1⟩ := minute26 hn
  unfold chargeparklaw26_DaysMoved.f
  rw [head26 79, Option.bind_some, usable26 _ _ _ _ (by omega), Option.bind_some]
  cases hv : dvalidB o cs hs with
  | false => rfl
  | true =>
    have hl := (dvalidB_iff.1 hv).2.1
    have hr := offB_iff.1 (dvalidB_iff.1 hv).1
    rw [if_pos rfl, wrap_id (x := o + 1440) (by omega) (by omega)]
    exact moved_l0 n m o true cs hs hv hm m0 m1 cs.length 80 0 [] (by omega) (by omega) (by omega) (by omega) rfl rfl

end Go.Proofs.Ytnbfjdfmpadndaa.Pure
