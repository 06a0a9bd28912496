/- For any valid cable that is at most as warm as Most, whatever currents up to the permitted one it carries, tick by tick, it never gets warmer than Most (up to 1000 ticks). -/
import Derived.Test.YtnbfjdfmpadndaaPrx20
import Derived.Test.YtnbfjdfmpadndaaPrOpn
import Derived.Test.YtnbfjdfmpadndaaPCable
namespace Go.Proofs.Ytnbfjdfmpadndaa.Pure
open Go.RowKit Go.Proofs.Ytnbfjdfmpadndaa.Pr Go.Proofs.YtnbfjdfmpadndaaW.PrintWords Go.Proofs.YtnbfjdfmpadndaaW.PrintLast

theorem safe_a {A M G L D : Int} (hc : CableOK A M G L D) {x : Int} (x0 : 0 ≤ x) (x1 : x ≤ permI A M G L D) : x ≤ 1000 ∧ G * x * x ≤ roomI A M L D := by
  have s := permI_spec hc
  have := sq_mono hc.g0 x0 x1
  omega
theorem hot_safe {A M G L D : Int} (hc : CableOK A M G L D) : ∀ (l : List Int) (i t : Int), t ≤ M → (∀ x ∈ l, 0 ≤ x ∧ x ≤ permI A M G L D) → hotF A M G L D i t l = -1
  | [], _, _, _, _ => rfl
  | x :: r, i, t, ht, hl => by
    have hx := hl x (by simp)
    have h1 := carry_safe hc ht hx.1 (safe_a hc hx.1 hx.2).2
    rw [hotF, if_neg (by omega)]
    exact hot_safe hc r _ _ h1 fun y hy => hl y (by simp [hy])
theorem safe_l1 {A M G L D : Int} (hc : CableOK A M G L D) (t0 : Int) (h00 : 0 ≤ t0) (h01 : t0 ≤ M) (l : List Int) (hl : ∀ x ∈ l, 0 ≤ x ∧ x ≤ permI A M G L D) (hn : l.length ≤ 1000) : ∀ (d k : Nat) (i t : Int), 0 ≤ i → i ≤ l.length → (l.length : Int) - i = d → d < k → 0 ≤ t → t ≤ M →
    chargeparklaw07_CableSafe.l1 k t0 true l t l l.length i A M G L D = some true := by
  intro d
  have hm := hc.m1
  induction d with
  | zero =>
    intro k i t i0 i1 hd hk ht hm
    obtain ⟨k, rfl⟩ : ∃ m, k = m + 1 := ⟨k - 1, by omega⟩
    simp only [chargeparklaw07_CableSafe.l1]
    rw [if_neg (by omega)]
    unfold cable_Hot.f
    have ha : l.any wrongB = false := by
      rw [List.any_eq_false]; intro x hx
      have := hl x hx
      rw [wrong_iff.2 ⟨this.1, (safe_a hc this.1 this.2).1⟩]; simp
    rw [if_pos ⟨cvalid_iff.2 ⟨.inl hc, h00, by omega⟩, ha⟩, Option.bind_some]
    have e : (if czeroB A M G L D = true then -1 else hotF A M G L D 0 t0 l) = -1 := by
      rw [hot_safe hc l 0 t0 h01 hl]; split <;> rfl
    simp only [e]
    rfl
  | succ d ih =>
    intro k i t i0 i1 hd hk ht hm
    obtain ⟨k, rfl⟩ : ∃ m, k = m + 1 := ⟨k - 1, by omega⟩
    have hlt : i < (l.length : Int) := by omega
    have hx := hl (rd l i) (by unfold rd; rw [List.getD_eq_getElem?_getD, List.getElem?_eq_getElem (show i.toNat < l.length by omega)]; exact List.getElem_mem _)
    have hs := safe_a hc hx.1 hx.2
    have h1 := carry_safe hc hm hx.1 hs.2
    simp only [chargeparklaw07_CableSafe.l1]
    rw [if_pos hlt, if_pos i0, if_pos hlt, Next_ok hc ht (by omega) hx.1 hs.1, if_pos (by omega), Option.bind_some, wrapC (x := i + 1) (by omega) (by omega)]
    simp only [if_true]
    rw [if_neg (by omega)]
    exact ih k (i + 1) _ (by omega) (by omega) (by omega) (by omega) (carry_nonneg hc hx.1 ht) h1
theorem safe_l0 {A M G L D : Int} (hc : CableOK A M G L D) (t0 : Int) (h00 : 0 ≤ t0) (h01 : t0 ≤ M) (l : List Int) (hn : l.length ≤ 1000) : ∀ (d k : Nat) (i : Int) (acc : List Int), 0 ≤ i → i ≤ l.length → (l.length : Int) - i = d → d + 1001 < k → acc.length = i → (∀ x ∈ acc, 0 ≤ x ∧ x ≤ permI A M G L D) →
    chargeparklaw07_CableSafe.l0 k t0 true (permI A M G L D) acc l l.length i A M G L D = some true := by
  intro d
  have hp := permI_spec hc
  induction d with
  | zero =>
    intro k i acc i0 i1 hd hk ha hl
    obtain ⟨k, rfl⟩ : ∃ m, k = m + 1 := ⟨k - 1, by omega⟩
    simp only [chargeparklaw07_CableSafe.l0]
    rw [if_neg (by omega)]
    exact safe_l1 hc t0 h00 h01 acc hl (by omega) acc.length k 0 t0 (by omega) (by omega) (by omega) (by omega) h00 h01
  | succ d ih =>
    intro k i acc i0 i1 hd hk ha hl
    obtain ⟨k, rfl⟩ : ∃ m, k = m + 1 := ⟨k - 1, by omega⟩
    have hlt : i < (l.length : Int) := by omega
    simp only [chargeparklaw07_CableSafe.l0]
    rw [if_pos hlt, if_pos i0, if_pos hlt, wrapC (x := permI A M G L D + 1) (by omega) (by omega), wrapC (x := i + 1) (by omega) (by omega)]
    by_cases c : rd l i < 0
    · rw [if_pos c]
    rw [if_neg c, if_neg (by omega), if_pos (by omega), Int.tmod_eq_emod_of_nonneg (by omega)]
    have h1 := Int.emod_nonneg (rd l i) (show permI A M G L D + 1 ≠ 0 by omega)
    have h2 := Int.emod_lt_of_pos (rd l i) (show 0 < permI A M G L D + 1 by omega)
    refine ih k (i + 1) _ (by omega) (by omega) (by omega) (by omega) (by simp; omega) fun x hx => ?_
    rcases List.mem_append.1 hx with hx | hx
    · exact hl x hx
    · rw [List.mem_singleton.1 hx]; omega
theorem CableSafe :
    ∀ (a0_0 : Int) (a0_1 : Int) (a0_2 : Int) (a0_3 : Int) (a0_4 : Int) (a1 : Int) (l2 : List Int), (Lit.int .i64 a0_0).wf = true → (Lit.int .i64 a0_1).wf = true → (Lit.int .i64 a0_2).wf = true → (Lit.int .i64 a0_3).wf = true → (Lit.int .i64 a0_4).wf = true → (Lit.int .i64 a1).wf = true → l2.length ≤ maxLen → l2.length * 8 ≤ 140737488351232 → (∀ x ∈ l2, (Lit.int .i64 x).wf = true) → ∃ k, chargeparklaw07_CableSafe.f k a0_0 a0_1 a0_2 a0_3 a0_4 a1 l2 = some true := by
  intro A M G L D t l _ _ _ _ _ _ _ _ _
  refine ⟨3000, ?_⟩
  unfold chargeparklaw07_CableSafe.f
  rw [head07, Option.bind_some, refValid07, Option.bind_some, zeroC]
  cases hv : (cokB A M G L D || czeroB A M G L D) with
  | false => rfl
  | true =>
  rw [if_pos rfl]
  cases hz : czeroB A M G L D with
  | true => rfl
  | false =>
  rw [if_neg (by simp)]
  have hc : CableOK A M G L D := cokB_iff.1 (by simpa [hz] using hv)
  by_cases c1 : t < 0
  · rw [if_pos c1]; rfl
  rw [if_neg c1]
  by_cases c2 : t > M
  · rw [if_pos c2]; rfl
  rw [if_neg c2]
  by_cases c3 : (l.length : Int) > 1000
  · rw [decide_eq_true c3]; rfl
  rw [decide_eq_false c3]
  show chargeparklaw07_CableSafe.j0 (2999 + 1) t l true false A M G L D = some true
  simp only [chargeparklaw07_CableSafe.j0]
  rw [if_neg (by simp), Permitted_ok hc, Option.bind_some]
  simp only [if_true]
  exact safe_l0 hc t (by omega) (by omega) l (by omega) l.length 2999 0 [] (by omega) (by omega) (by omega) (by omega) rfl (fun x hx => by cases hx)

end Go.Proofs.Ytnbfjdfmpadndaa.Pure
