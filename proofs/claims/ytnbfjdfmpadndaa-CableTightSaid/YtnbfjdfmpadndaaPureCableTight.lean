/- For any valid cable for which a current is not permitted, a cable that carries it in every tick, and is not cooler than Ambient at first, is warmer than Most after at most Most - Ambient + 1 ticks (Most at most 3000 above Ambient). -/
import Derived.Test.YtnbfjdfmpadndaaPrx21
import Derived.Test.YtnbfjdfmpadndaaPrOpn
import Derived.Test.YtnbfjdfmpadndaaPCable
namespace Go.Proofs.Ytnbfjdfmpadndaa.Pure
open Go.RowKit Go.Proofs.Ytnbfjdfmpadndaa.Pr Go.Proofs.YtnbfjdfmpadndaaW.PrintWords Go.Proofs.YtnbfjdfmpadndaaW.PrintLast

theorem hot_tight {A M G L D q : Int} (hc : CableOK A M G L D) (hq : roomI A M L D < G * q * q) : ∀ (n : Nat) (i t : Int), 0 ≤ i → M - t + 1 ≤ n → 1 ≤ n → 0 ≤ hotF A M G L D i t (List.replicate n q)
  | 0, _, _, _, _, h => by omega
  | n + 1, i, t, hi, ht, _ => by
    rw [List.replicate_succ, hotF]
    by_cases c : M < carryI A G L D t q
    · rw [if_pos c]; exact hi
    · rw [if_neg c]
      have := (carry_tight hc hq (t := t)).resolve_left c
      exact hot_tight hc hq n (i + 1) _ (by omega) (by omega) (by omega)
theorem tight_l0 {A M G L D q p m : Int} (hc : CableOK A M G L D) (t : Int) (t0 : A ≤ t) (t1 : t ≤ 1000000000) (hm : M - A ≤ 3000) (hpm : p + m = q) (q0 : 0 ≤ q) (q1 : q ≤ 1000) (hq : roomI A M L D < G * q * q) : ∀ (d k : Nat) (i : Int) (acc : List Int), 0 ≤ i → i ≤ M - A + 1 → M - A + 1 - i = d → d < k → acc = List.replicate i.toNat q →
    chargeparklaw07_CableTight.l0 k t m true p acc (M - A + 1) i A M G L D = some true := by
  intro d
  have ha0 := hc.a0
  have ham := hc.am
  induction d with
  | zero =>
    intro k i acc i0 i1 hd hk ha
    obtain ⟨k, rfl⟩ : ∃ m, k = m + 1 := ⟨k - 1, by omega⟩
    simp only [chargeparklaw07_CableTight.l0]
    rw [if_neg (by omega)]
    subst ha
    unfold cable_Hot.f
    have haw : (List.replicate i.toNat q).any wrongB = false := by
      rw [List.any_eq_false]; intro x hx
      rw [List.eq_of_mem_replicate hx, wrong_iff.2 ⟨q0, q1⟩]; simp
    rw [if_pos ⟨cvalid_iff.2 ⟨.inl hc, by omega, t1⟩, haw⟩, Option.bind_some]
    have e : (if czeroB A M G L D = true then -1 else hotF A M G L D 0 t (List.replicate i.toNat q)) = hotF A M G L D 0 t (List.replicate i.toNat q) := by rw [ok_nz hc]; rfl
    simp only [e, if_true]
    rw [decide_eq_true (hot_tight hc hq i.toNat 0 t (by omega) (by omega) (by omega))]
  | succ d ih =>
    intro k i acc i0 i1 hd hk ha
    obtain ⟨k, rfl⟩ : ∃ m, k = m + 1 := ⟨k - 1, by omega⟩
    simp only [chargeparklaw07_CableTight.l0]
    have hal : acc.length = i.toNat := by rw [ha, List.length_replicate]
    rw [if_pos (by omega), if_pos (by omega), wrapC (x := i + 1) (by omega) (by omega), wrapC (x := p + m) (by omega) (by omega), hpm]
    refine ih k (i + 1) _ (by omega) (by omega) (by omega) (by omega) ?_
    rw [ha, show (i + 1).toNat = i.toNat + 1 by omega, List.replicate_succ']
theorem CableTight :
    ∀ (a0_0 : Int) (a0_1 : Int) (a0_2 : Int) (a0_3 : Int) (a0_4 : Int) (a1 : Int) (a2 : Int), (Lit.int .i64 a0_0).wf = true → (Lit.int .i64 a0_1).wf = true → (Lit.int .i64 a0_2).wf = true → (Lit.int .i64 a0_3).wf = true → (Lit.int .i64 a0_4).wf = true → (Lit.int .i64 a1).wf = true → (Lit.int .i64 a2).wf = true → ∃ k, chargeparklaw07_CableTight.f k a0_0 a0_1 a0_2 a0_3 a0_4 a1 a2 = some true := by
  intro A M G L D t m _ _ _ _ _ wt wm
  have wm2 : -9223372036854775808 ≤ m ∧ m ≤ 9223372036854775807 := by simp [Lit.wf, IntKind.min, IntKind.max, IntKind.bits, IntKind.signed] at wm; omega
  refine ⟨4000, ?_⟩
  unfold chargeparklaw07_CableTight.f
  rw [head07, Option.bind_some, refValid07, Option.bind_some, zeroC]
  cases hv : (cokB A M G L D || czeroB A M G L D) with
  | false => rfl
  | true =>
  rw [if_pos rfl]
  cases hz : czeroB A M G L D with
  | true => rfl
  | false =>
  rw [if_neg (by simp)]
  have hc : CableOK A M G L D := cokB_iff.1 (by simpa [hz] using hv)
  have ha0 := hc.a0
  have ham := hc.am
  have hm1 := hc.m1
  by_cases c1 : t < A
  · rw [if_pos c1]; rfl
  rw [if_neg c1]
  by_cases c2 : t > 1000000000
  · rw [if_pos c2]; rfl
  rw [if_neg c2, wrapC (x := M - A) (by omega) (by omega)]
  by_cases c3 : M - A > 3000
  · rw [if_pos c3]; rfl
  rw [if_neg c3]
  by_cases c4 : m < 1
  · rw [if_pos c4]; rfl
  rw [if_neg c4]
  by_cases c5 : m > 1000
  · rw [decide_eq_true c5]; rfl
  rw [decide_eq_false c5]
  show chargeparklaw07_CableTight.j0 (3999 + 1) t m true false A M G L D = some true
  simp only [chargeparklaw07_CableTight.j0]
  have hp := permI_spec hc
  rw [if_neg (by simp), Permitted_ok hc, Option.bind_some, wrapC (x := permI A M G L D + m) (by omega) (by omega)]
  simp only [if_true]
  by_cases c6 : permI A M G L D + m > 1000
  · rw [decide_eq_true c6]; rfl
  rw [decide_eq_false c6]
  show chargeparklaw07_CableTight.j1 (3998 + 1) t m true (permI A M G L D) 0 false A M G L D = some true
  simp only [chargeparklaw07_CableTight.j1]
  rw [if_neg (by simp), wrapC (x := M - A) (by omega) (by omega), wrapC (x := M - A + 1) (by omega) (by omega)]
  have hq : roomI A M L D < G * (permI A M G L D + m) * (permI A M G L D + m) := by
    have h1 := hp.2.2.2 (by omega)
    have h2 := sq_mono hc.g0 (show 0 ≤ permI A M G L D + 1 by omega) (show permI A M G L D + 1 ≤ permI A M G L D + m by omega)
    omega
  exact tight_l0 hc t (by omega) (by omega) (by omega) rfl (by omega) (by omega) hq (M - A + 1).toNat 3998 0 [] (by omega) (by omega) (by omega) (by omega) rfl

end Go.Proofs.Ytnbfjdfmpadndaa.Pure
