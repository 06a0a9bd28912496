/- At a change the local time jumps, apart from the one minute that passes, by the difference of its offset and the one before: for every calendar that the reference finds valid. -/
import Derived.Test.YtnbfjdfmpadndaaPrx13
import Derived.Test.YtnbfjdfmpadndaaPrOpn
import Derived.Test.YtnbfjdfmpadndaaPDays
namespace Go.Proofs.Ytnbfjdfmpadndaa.Pure
open Go.RowKit Go.Proofs.Ytnbfjdfmpadndaa.Pr Go.Proofs.YtnbfjdfmpadndaaW.PrintWords Go.Proofs.YtnbfjdfmpadndaaW.PrintLast

theorem offAt_take (m : Int) : ∀ (o : Int) (cs : List S37) (i : Nat), i < cs.length → (∀ t : Nat, t < cs.length → t ≤ i → (cs.getD t z37).f0 ≤ m) → (∀ t : Nat, i < t → t < cs.length → m < (cs.getD t z37).f0) → offAt m o cs = (cs.getD i z37).f1 := by
  intro o cs i hi h1 h2
  rw [offAt_split m o cs (i + 1) (by omega) (fun t ht => h1 t (by omega) (by omega)) (fun t ht hl => h2 t (by omega) hl), if_neg (by omega), Nat.add_sub_cancel]
theorem changes_sorted {o : Int} {cs : List S37} {hs : List Int} (hv : dvalidB o cs hs = true) (a b : Nat) (hab : a < b) (hb : b < cs.length) : (cs.getD a z37).f0 < (cs.getD b z37).f0 := by
  have := ascB_mono (dvalidB_iff.1 hv).2.2.2.2.1 a b hab (by simpa using hb)
  rwa [map_f0 _ _ (by omega), map_f0 _ _ hb] at this
theorem changes_range {o : Int} {cs : List S37} {hs : List Int} (hv : dvalidB o cs hs = true) (a : Nat) (ha : a < cs.length) : 0 ≤ (cs.getD a z37).f0 ∧ (cs.getD a z37).f0 ≤ 52560000 ∧ -1440 ≤ (cs.getD a z37).f1 ∧ (cs.getD a z37).f1 ≤ 1440 := by
  have hm : cs.getD a z37 ∈ cs := by rw [List.getD_eq_getElem?_getD, List.getElem?_eq_getElem ha]; exact List.getElem_mem _
  have h1 := ascB_gt (dvalidB_iff.1 hv).2.2.2.2.1 (cs.getD a z37).f0 (List.mem_map.2 ⟨_, hm, rfl⟩)
  have h2 := offB_iff.1 ((dvalidB_iff.1 hv).2.2.2.1 _ hm)
  omega
theorem changes_l0 (up : Bool) (o : Int) (cs : List S37) (hs : List Int) (hv : dvalidB o cs hs = true) : ∀ (d k : Nat) (i n : Int), 0 ≤ i → i ≤ cs.length → (cs.length : Int) - i = d → d < k → n = (if i = 0 then o else (rd_T37 cs (i - 1)).f1) →
    chargeparklaw26_DaysChanges.l0 k up n cs cs.length i o cs hs = some up := by
  intro d
  have hl := (dvalidB_iff.1 hv).2.1
  have ho := offB_iff.1 (dvalidB_iff.1 hv).1
  have rdg : ∀ i : Int, rd_T37 cs i = cs.getD i.toNat z37 := fun i => rfl
  induction d with
  | zero =>
    intro k i n h0 h1 hd hk hn
    obtain ⟨k, rfl⟩ : ∃ m, k = m + 1 := ⟨k - 1, by omega⟩
    have hr := off_range (m := 52560000) hv
    simp only [chargeparklaw26_DaysChanges.l0]
    rw [if_neg (by omega), local26 hv (by omega) (by omega), Option.bind_some]
    have he : offAt 52560000 o cs = n := by
      rw [hn]
      by_cases hz : i = 0
      · rw [if_pos hz, List.eq_nil_of_length_eq_zero (show cs.length = 0 by omega)]; rfl
      · rw [if_neg hz, rdg, show (i - 1).toNat = cs.length - 1 by omega]
        exact offAt_take _ _ _ _ (by omega) (fun t ht _ => (changes_range hv t ht).2.1) (fun t h1 h2 => by omega)
    rw [he] at hr ⊢
    rw [wrap_id (by omega) (by omega), beq_self_eq_true]
    cases up <;> rfl
  | succ d ih =>
    intro k i n h0 h1 hd hk hn
    obtain ⟨k, rfl⟩ : ∃ m, k = m + 1 := ⟨k - 1, by omega⟩
    have hlt : i < (cs.length : Int) := by omega
    have hit : i.toNat < cs.length := by omega
    have hR := changes_range hv i.toNat hit
    have hih := ih k (i + 1) (rd_T37 cs i).f1 (by omega) (by omega) (by omega) (by omega) (by rw [if_neg (by omega), Int.add_sub_cancel])
    have hnr : -1440 ≤ n ∧ n ≤ 1440 := by
      rw [hn]; split
      · exact ho
      · rw [rdg]; have := changes_range hv (i - 1).toNat (by omega); omega
    simp only [chargeparklaw26_DaysChanges.l0]
    rw [if_pos hlt, if_pos h0, if_pos hlt, wrap_id (x := i + 1) (by omega) (by omega)]
    rw [rdg] at hih ⊢
    by_cases c : (cs.getD i.toNat z37).f0 > 0
    · rw [if_pos c, wrap_id (x := (cs.getD i.toNat z37).f0 - 1) (by omega) (by omega), local26 hv (by omega) (by omega), local26 hv (by omega) (by omega), Option.bind_some, Option.bind_some]
      have e1 : offAt (cs.getD i.toNat z37).f0 o cs = (cs.getD i.toNat z37).f1 := by
        refine offAt_take _ _ _ _ hit (fun t ht hti => ?_) (fun t h1 h2 => changes_sorted hv _ _ h1 h2)
        rcases Nat.lt_or_ge t i.toNat with h | h
        · exact Int.le_of_lt (changes_sorted hv _ _ h hit)
        · rw [show t = i.toNat by omega]; exact Int.le_refl _
      have e2 : offAt ((cs.getD i.toNat z37).f0 - 1) o cs = n := by
        rw [offAt_split _ o cs i.toNat (by omega) (fun t ht => by have := changes_sorted hv _ _ ht hit; omega) (fun t ht hl => by
          rcases Nat.lt_or_ge i.toNat t with h | h
          · have := changes_sorted hv _ _ h hl; omega
          · rw [show t = i.toNat by omega]; omega), hn]
        by_cases hz : i = 0
        · rw [if_pos hz, if_pos (by omega)]
        · rw [if_neg hz, if_neg (by omega), rdg, show (i - 1).toNat = i.toNat - 1 by omega]
      rw [e1, e2]
      generalize (cs.getD i.toNat z37).f0 = x at hR c ⊢
      generalize (cs.getD i.toNat z37).f1 = y at hR hih ⊢
      simp only [if_true]
      rw [wrap_id (x := x + y - (x - 1 + n)) (by omega) (by omega), wrap_id (x := 1 + y) (by omega) (by omega), wrap_id (x := 1 + y - n) (by omega) (by omega), if_pos (by omega)]
      exact hih
    · rw [if_neg c]
      exact hih
theorem DaysChanges :
    ∀ (a0_0 : Int) (l0_1 : List (S37)) (l0_2 : List Int), (Lit.int .i64 a0_0).wf = true → l0_1.length ≤ maxLen → l0_1.length * 16 ≤ 140737488351232 → (∀ x ∈ l0_1, Wf37 x) → l0_2.length ≤ maxLen → l0_2.length * 8 ≤ 140737488351232 → (∀ x ∈ l0_2, (Lit.int .i64 x).wf = true) → ∃ k, chargeparklaw26_DaysChanges.f k a0_0 l0_1 l0_2 = some true := by
  intro o cs hs _ _ _ _ _ _ _
  refine ⟨70, ?_⟩
  unfold chargeparklaw26_DaysChanges.f
  rw [head26 69, Option.bind_some, usable26 _ _ _ _ (by omega), Option.bind_some]
  cases hv : dvalidB o cs hs with
  | false => rfl
  | true =>
    have hl := (dvalidB_iff.1 hv).2.1
    rw [if_pos rfl]
    exact changes_l0 true o cs hs hv cs.length 70 0 o (by omega) (by omega) (by omega) (by omega) rfl

end Go.Proofs.Ytnbfjdfmpadndaa.Pure
