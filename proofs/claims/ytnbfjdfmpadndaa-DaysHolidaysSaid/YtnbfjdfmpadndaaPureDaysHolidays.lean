/- A day that is made a holiday has the type DaySunday, and the types of all other days remain: for every calendar that the reference finds valid. -/
import Derived.Test.YtnbfjdfmpadndaaPrx15
import Derived.Test.YtnbfjdfmpadndaaPrOpn
import Derived.Test.YtnbfjdfmpadndaaPDays
namespace Go.Proofs.Ytnbfjdfmpadndaa.Pure
open Go.RowKit Go.Proofs.Ytnbfjdfmpadndaa.Pr Go.Proofs.YtnbfjdfmpadndaaW.PrintWords Go.Proofs.YtnbfjdfmpadndaaW.PrintLast

/-- A holiday h put into an ascending list; done: it has been put in. -/
def insI (h : Int) : Bool → List Int → List Int
  | done, [] => if done = true then [] else [h]
  | done, x :: r => if x ≥ h ∧ done = false then (if x = h then h :: insI h true r else h :: x :: insI h true r) else (if x = h then insI h done r else x :: insI h done r)
theorem insI_done (h : Int) : ∀ l : List Int, (∀ x ∈ l, h < x) → insI h true l = l
  | [], _ => rfl
  | x :: r, hx => by
    have := hx x (by simp)
    rw [insI, if_neg (by simp), if_neg (by omega), insI_done h r fun y hy => hx y (by simp [hy])]
theorem insI_asc {most h : Int} (hm : h ≤ most) : ∀ {last : Int} {l : List Int}, ascB most last l = true → last < h → ascB most last (insI h false l) = true
  | last, [], _, hl => by simp [insI, ascB]; omega
  | last, x :: r, ha, hl => by
    have hg := ascB_gt (last := x) (l := r) (by simp only [ascB, Bool.and_eq_true] at ha; exact ha.2.2)
    simp only [ascB, Bool.and_eq_true, decide_eq_true_eq] at ha
    rw [insI]
    by_cases c : x ≥ h
    · rw [if_pos ⟨c, rfl⟩, insI_done h r fun y hy => by have := hg y hy; omega]
      by_cases e : x = h
      · rw [if_pos e]; simp only [ascB, Bool.and_eq_true, decide_eq_true_eq]; subst e; exact ⟨hl, hm, ha.2.2⟩
      · rw [if_neg e]; simp only [ascB, Bool.and_eq_true, decide_eq_true_eq]; exact ⟨hl, hm, by omega, ha.2.1, ha.2.2⟩
    · rw [if_neg (by omega), if_neg (by omega)]
      simp only [ascB, Bool.and_eq_true, decide_eq_true_eq]
      exact ⟨ha.1, ha.2.1, insI_asc hm ha.2.2 (by omega)⟩
theorem insI_mem {most h : Int} : ∀ {last : Int} {l : List Int}, ascB most last l = true → ∀ y, y ∈ insI h false l ↔ y = h ∨ y ∈ l
  | last, [], _, y => by simp [insI]
  | last, x :: r, ha, y => by
    have hg := ascB_gt (last := x) (l := r) (by simp only [ascB, Bool.and_eq_true] at ha; exact ha.2.2)
    simp only [ascB, Bool.and_eq_true, decide_eq_true_eq] at ha
    rw [insI]
    by_cases c : x ≥ h
    · rw [if_pos ⟨c, rfl⟩, insI_done h r fun y hy => by have := hg y hy; omega]
      by_cases e : x = h
      · rw [if_pos e, List.mem_cons, List.mem_cons, e]; simp
      · rw [if_neg e]; simp only [List.mem_cons]
    · rw [if_neg (by omega), if_neg (by omega), List.mem_cons, insI_mem ha.2.2 y, List.mem_cons]
      constructor
      · rintro (h | h | h); exact .inr (.inl h); exact .inl h; exact .inr (.inr h)
      · rintro (h | h | h); exact .inr (.inl h); exact .inl h; exact .inr (.inr h)
theorem insI_len (h : Int) : ∀ (done : Bool) (l : List Int), (insI h done l).length ≤ l.length + 1
  | done, [] => by cases done <;> simp [insI]
  | done, x :: r => by
    have h1 := insI_len h true r
    have h2 := insI_len h done r
    have h3 : (∀ x ∈ r, h < x) → (insI h true r).length = r.length := fun hx => by rw [insI_done h r hx]
    have h4 : (insI h true r).length ≤ r.length := insI_len1 h r
    rw [insI]
    split
    · split <;> simp <;> omega
    · split
      · simp; omega
      · simp; omega
where
  insI_len1 (h : Int) : ∀ l : List Int, (insI h true l).length ≤ l.length
    | [] => by simp [insI]
    | x :: r => by
      have := insI_len1 h r
      rw [insI, if_neg (by simp)]
      split
      · simp; omega
      · simp; omega
theorem hol_l0 (up : Bool) (h q o : Int) (cs : List S37) (hs : List Int) (hl : hs.length ≤ 32) : ∀ (d k : Nat) (i : Int) (done : Bool) (more : List Int), 0 ≤ i → i ≤ hs.length → (hs.length : Int) - i = d → 2 * d + 1 < k → more.length ≤ 2 * i →
    (∀ k, chargeparklaw26_DaysHolidays.j2 (k + 1) up h q o cs hs o cs (more ++ insI h done (hs.drop i.toNat)) = some up) →
    chargeparklaw26_DaysHolidays.l0 k up h q done hs hs.length i o cs hs o cs more = some up := by
  intro d
  induction d with
  | zero =>
    intro k i done more h0 h1 hd hk hm hj
    obtain ⟨k, rfl⟩ : ∃ m, k = m + 2 := ⟨k - 2, by omega⟩
    rw [List.drop_eq_nil_of_le (by omega)] at hj
    simp only [chargeparklaw26_DaysHolidays.l0]
    rw [if_neg (by omega)]
    cases done with
    | true => rw [if_pos rfl]; have := hj k; simp only [insI, if_true, List.append_nil] at this; exact this
    | false => rw [if_neg (by simp), if_pos (by omega)]; exact hj k
  | succ d ih =>
    intro k i done more h0 h1 hd hk hm hj
    obtain ⟨k, rfl⟩ : ∃ m, k = m + 2 := ⟨k - 2, by omega⟩
    have hlt : i < (hs.length : Int) := by omega
    rw [drop_rdI h0 hlt, insI] at hj
    simp only [chargeparklaw26_DaysHolidays.l0]
    rw [if_pos hlt, if_pos h0, if_pos hlt]
    generalize rd hs i = x at hj ⊢
    simp only [chargeparklaw26_DaysHolidays.j1]
    rw [wrap_id (x := i + 1) (by omega) (by omega)]
    have go := fun done more => ih k (i + 1) done more (by omega) (by omega) (by omega) (by omega)
    by_cases c : x ≥ h
    · rw [if_pos c]
      cases done with
      | false =>
        rw [if_pos ⟨c, rfl⟩] at hj
        rw [if_pos (by rfl), if_pos (by omega), Option.bind_some]
        by_cases e : x = h
        · rw [if_pos e] at hj ⊢
          refine go _ _ (by simp; omega) fun k => ?_
          rw [List.append_assoc]; exact hj k
        · rw [if_neg e] at hj ⊢
          rw [if_pos (by simp; omega)]
          refine go _ _ (by simp; omega) fun k => ?_
          rw [List.append_assoc, List.append_assoc]; exact hj k
      | true =>
        rw [if_neg (by simp)] at hj
        rw [if_neg (by simp)]
        by_cases e : x = h
        · rw [if_pos e] at hj ⊢
          exact go _ _ (by omega) hj
        · rw [if_neg e] at hj ⊢
          rw [if_pos (by omega)]
          refine go _ _ (by simp; omega) fun k => ?_
          rw [List.append_assoc]; exact hj k
    · rw [if_neg (by omega)] at hj
      rw [if_neg c, if_neg (by simp)]
      by_cases e : x = h
      · rw [if_pos e] at hj ⊢
        exact go _ _ (by omega) hj
      · rw [if_neg e] at hj ⊢
        rw [if_pos (by omega)]
        refine go _ _ (by simp; omega) fun k => ?_
        rw [List.append_assoc]; exact hj k
theorem hol_j2 (h q o : Int) (cs : List S37) (hs : List Int) (hv : dvalidB o cs hs = true) (h0 : 0 ≤ h) (h1 : h ≤ 36500) (q0 : -1 ≤ q) (q1 : q ≤ 36501) (k : Nat) :
    chargeparklaw26_DaysHolidays.j2 (k + 1) true h q o cs hs o cs (insI h false hs) = some true := by
  obtain ⟨v0, v1, v2, v3, v4, v5⟩ := dvalidB_iff.1 hv
  have ha := insI_asc h1 v5 (show -1 < h by omega)
  have hmem := insI_mem (h := h) v5
  generalize insI h false hs = more at ha hmem ⊢
  simp only [chargeparklaw26_DaysHolidays.j2]
  by_cases c : (more.length : Int) > 32
  · rw [if_pos c, if_pos trivial]
    unfold days_Valid.f
    rw [Option.bind_some, show dvalidB o cs more = false by
      cases hb : dvalidB o cs more with
      | false => rfl
      | true => have := (dvalidB_iff.1 hb).2.2.1; omega]
    rfl
  · rw [if_neg c]
    have hv2 : dvalidB o cs more = true := dvalidB_iff.2 ⟨v0, v1, by omega, v3, v4, ha⟩
    rw [Type_ok hv2 (by omega) (by omega), Type_ok hv q0 q1, Type_ok hv2 q0 q1]
    simp only [Option.bind_some, if_true]
    have hh : more.contains h = true := by rw [List.contains_iff_mem, hmem]; exact .inl rfl
    rw [if_pos (show (if more.contains h = true then 2 else weekOf h) = 2 by rw [hh]; rfl)]
    by_cases e : q = h
    · rw [if_pos e]
    · rw [if_neg e]
      have hc : more.contains q = hs.contains q := by
        rw [Bool.eq_iff_iff, List.contains_iff_mem, List.contains_iff_mem, hmem]
        exact ⟨fun hh => hh.resolve_left e, .inr⟩
      rw [hc, beq_self_eq_true]
theorem DaysHolidays :
    ∀ (a0_0 : Int) (l0_1 : List (S37)) (l0_2 : List Int) (a1 : Int) (a2 : Int), (Lit.int .i64 a0_0).wf = true → l0_1.length ≤ maxLen → l0_1.length * 16 ≤ 140737488351232 → (∀ x ∈ l0_1, Wf37 x) → l0_2.length ≤ maxLen → l0_2.length * 8 ≤ 140737488351232 → (∀ x ∈ l0_2, (Lit.int .i64 x).wf = true) → (Lit.int .u16 a1).wf = true → (Lit.int .u16 a2).wf = true → ∃ k, chargeparklaw26_DaysHolidays.f k a0_0 l0_1 l0_2 a1 a2 = some true := by
  intro o cs hs n l _ _ _ _ _ _ _ hn hl
  refine ⟨70, ?_⟩
  have hb : 0 ≤ n ∧ n ≤ 65535 := by simp [Lit.wf, IntKind.min, IntKind.max, IntKind.bits, IntKind.signed] at hn; omega
  have hb2 : 0 ≤ l ∧ l ≤ 65535 := by simp [Lit.wf, IntKind.min, IntKind.max, IntKind.bits, IntKind.signed] at hl; omega
  unfold chargeparklaw26_DaysHolidays.f
  rw [head26 69, Option.bind_some, usable26 _ _ _ _ (by omega), Option.bind_some, wrap_id (x := n) (by omega) (by omega), wrap_id (x := l) (by omega) (by omega), Int.tmod_eq_emod_of_nonneg (by omega), Int.tmod_eq_emod_of_nonneg (by omega), wrap_id (x := l % 36503 - 1) (by omega) (by omega)]
  cases hv : dvalidB o cs hs with
  | false => rfl
  | true =>
    rw [if_pos rfl]
    have h2 := (dvalidB_iff.1 hv).2.2.1
    exact hol_l0 true _ _ o cs hs h2 hs.length 70 0 false [] (by omega) (by omega) (by omega) (by omega) (by simp) fun k => by
      rw [List.nil_append]
      exact hol_j2 _ _ o cs hs hv (by omega) (by omega) (by omega) (by omega) k

end Go.Proofs.Ytnbfjdfmpadndaa.Pure
