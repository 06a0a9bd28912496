/- For every valid session, price, unit and free minutes, in a calendar without holidays and changes, an article that always applies costs what the document says, at the start, for energy, for time and idle; and the fixed examples hold. -/
import Derived.Test.YtbkkgaiokmnmgaaPrx25
import Derived.Test.YtbkkgaiokmnmgaaPrOpn
import Derived.Test.YtbkkgaiokmnmgaaPBill
namespace Go.Proofs.Ytbkkgaiokmnmgaa.Pure
open Go.RowKit Go.Proofs.Ytbkkgaiokmnmgaa.Pr Go.Proofs.YtbkkgaiokmnmgaaW.PrintWords Go.Proofs.YtbkkgaiokmnmgaaW.PrintLast

theorem head33 : chargeparklaw33_head.f = some true := by kernel_rfl
theorem dv0 : dvalidB 0 [] [] = true := by decide
theorem started_w {p u : Int} (hp : 0 ≤ p ∧ p ≤ 100000) (hu : 1 ≤ u ∧ u ≤ 1440) (q : Int) (hq : 0 ≤ q ∧ q ≤ 2880) : wrap64 (p * wrap64 (Int.tdiv (wrap64 (wrap64 (q + u) - 1)) u)) = p * ((q + u - 1) / u) := by
  obtain ⟨y0, y1⟩ := startedQ hq.1 hu.1
  obtain ⟨m0, m1⟩ := mul_bd hp.1 hp.2 y0 (Int.le_trans y1 hq.2)
  rw [wrap_id (x := q + u) (by omega) (by omega), wrap_id (x := q + u - 1) (by omega) (by omega), Int.tdiv_eq_ediv_of_nonneg (by omega), wrap_id (x := (q + u - 1) / u) (by omega) (by omega), wrap_id (by omega) (by omega)]
section
variable {s0 s1 s2 p u f : Int} {l : List S50} (hs : svalB s0 s1 s2 l = true) (hp : 0 ≤ p ∧ p ≤ 100000) (hu : 1 ≤ u ∧ u ≤ 1440) (hf : 0 ≤ f ∧ f ≤ 1440)
include hs hp
theorem L1 : bill_Line.f 1 7 0 1440 p 0 0 0 [] [] s0 s1 s2 l = some (p, 0) := by
  have ha : artOK (⟨1, 7, 0, 1440, p, 0, 0⟩ : S26) = true := decide_eq_true (by unfold ArtP; dsimp only; omega)
  obtain ⟨h1, _⟩ := ses_bd hs
  refine (line_ok ha dv0 hs).trans ?_
  rw [lineG_start rfl, app_always ha dv0 (by omega) (by omega) rfl rfl rfl]
  rfl
theorem L2 : bill_Line.f 2 7 0 1440 p 0 0 0 [] [] s0 s1 s2 l = some ((p * enAll l 0 + 500) / 1000, 0) := by
  have ha : artOK (⟨2, 7, 0, 1440, p, 0, 0⟩ : S26) = true := decide_eq_true (by unfold ArtP; dsimp only; omega)
  obtain ⟨h1, h2, h3, h4, h5⟩ := ses_bd hs
  refine (line_ok ha dv0 hs).trans ?_
  obtain ⟨m0, m1⟩ := mul_bd hp.1 hp.2 h4 h5
  rw [lineG_energy rfl, enSum_all _ _ _ (fun x hx => app_always ha dv0 (by have := h3 x hx; omega) (by have := h3 x hx; omega) rfl rfl rfl), times_v (by dsimp only; omega) ⟨h4, h5⟩, if_pos (by dsimp only; omega)]
include hu hf
theorem L3 : bill_Line.f 3 7 0 1440 p u f 0 [] [] s0 s1 s2 l = some (p * ((max 0 (s1 - s0 - f) + u - 1) / u), 0) := by
  have ha : artOK (⟨3, 7, 0, 1440, p, u, f⟩ : S26) = true := decide_eq_true (by unfold ArtP; dsimp only; omega)
  obtain ⟨h1, _⟩ := ses_bd hs
  refine (line_ok ha dv0 hs).trans ?_
  rw [lineG_time rfl, mins_all _ _ _ (fun i hi => app_always ha dv0 (by omega) (by omega) rfl rfl rfl), show (((s1 - s0).toNat : Nat) : Int) = s1 - s0 by omega]
  obtain ⟨y0, y1⟩ := startedQ (q := max 0 (s1 - s0 - f)) (by omega) hu.1
  obtain ⟨m0, m1⟩ := mul_bd hp.1 hp.2 y0 (show _ ≤ 2880 by omega)
  rw [started_v (by dsimp only; omega) (by dsimp only; omega) hu, if_pos (by dsimp only; omega)]
theorem L4 : bill_Line.f 4 7 0 1440 p u f 0 [] [] s0 s1 s2 l = some (p * ((max 0 (s1 - s2 - f) + u - 1) / u), 0) := by
  have ha : artOK (⟨4, 7, 0, 1440, p, u, f⟩ : S26) = true := decide_eq_true (by unfold ArtP; dsimp only; omega)
  obtain ⟨h1, _⟩ := ses_bd hs
  refine (line_ok ha dv0 hs).trans ?_
  rw [lineG_idle rfl, mins_all _ _ _ (fun i hi => app_always ha dv0 (by omega) (by omega) rfl rfl rfl), show (((s1 - s2).toNat : Nat) : Int) = s1 - s2 by omega]
  obtain ⟨y0, y1⟩ := startedQ (q := max 0 (s1 - s2 - f)) (by omega) hu.1
  obtain ⟨m0, m1⟩ := mul_bd hp.1 hp.2 y0 (show _ ≤ 2880 by omega)
  rw [started_v (by dsimp only; omega) (by dsimp only; omega) hu, if_pos (by dsimp only; omega)]
theorem BE_l0 : ∀ (d k : Nat) (i n : Int), 0 ≤ i → i ≤ l.length → (l.length : Int) - i = d → d < k → enAll (l.drop i.toNat) n = enAll l 0 → 0 ≤ n ∧ n ≤ 10000 * i →
    chargeparklaw33_BillExactly.l0 k p u f true n i s0 s1 s2 l 0 = some true := by
  obtain ⟨h1, h2, h3, h4, h5⟩ := ses_bd hs
  have hl : l.length ≤ 48 := (sval_iff hs).2.1
  intro d
  induction d with
  | zero =>
    intro k i n h0 h1' hd hk he hn
    obtain ⟨k, rfl⟩ : ∃ m, k = m + 1 := ⟨k - 1, by omega⟩
    rw [List.drop_eq_nil_of_le (by omega)] at he
    change n = enAll l 0 at he
    simp only [chargeparklaw33_BillExactly.l0]
    rw [if_neg (by omega)]
    unfold chargeparklaw33_article.f
    simp only [Option.bind_some]
    rw [L1 hs hp, L2 hs hp, L3 hs hp hu hf, L4 hs hp hu hf]
    simp only [Option.bind_some, if_true]
    obtain ⟨m0, m1⟩ := mul_bd hp.1 hp.2 h4 h5
    rw [he, wrap_id (x := p * enAll l 0) (by omega) (by omega), wrap_id (x := p * enAll l 0 + 500) (by omega) (by omega), Int.tdiv_eq_ediv_of_nonneg (by omega), wrap_id (x := (p * enAll l 0 + 500) / 1000) (by omega) (by omega), if_pos rfl, if_neg (by omega),
      wrap_id (x := s1 - s0) (by omega) (by omega), wrap_id (x := s1 - s0 - f) (by omega) (by omega), wrap_id (x := s1 - s2) (by omega) (by omega), wrap_id (x := s1 - s2 - f) (by omega) (by omega), mx_max, mx_max,
      started_w hp hu _ (by omega), started_w hp hu _ (by omega), if_pos rfl, beq_self_eq_true]
  | succ d ih =>
    intro k i n h0 h1' hd hk he hn
    obtain ⟨k, rfl⟩ : ∃ m, k = m + 1 := ⟨k - 1, by omega⟩
    have hlt : i < (l.length : Int) := by omega
    have hm := h2 _ (rdS_mem h0 hlt)
    rw [drop_rdS h0 hlt] at he
    simp only [chargeparklaw33_BillExactly.l0]
    rw [if_pos hlt, if_pos h0, wrap_id (x := n + _) (by omega) (by omega), wrap_id (x := i + 1) (by omega) (by omega)]
    exact ih k (i + 1) _ (by omega) (by omega) (by omega) (by omega) he (by omega)
end
theorem BE_j1 (k : Nat) (p u f s0 s1 s2 : Int) (l : List S50) : chargeparklaw33_BillExactly.j1 (k + 1) p u f true true s0 s1 s2 l = some true := by
  simp only [chargeparklaw33_BillExactly.j1, if_true]
theorem BillExactly :
    ∀ (a0_0 : Int) (a0_1 : Int) (a0_2 : Int) (l0_3 : List (S50)) (a1 : Int) (a2 : Int) (a3 : Int), (Lit.int .i64 a0_0).wf = true → (Lit.int .i64 a0_1).wf = true → (Lit.int .i64 a0_2).wf = true → l0_3.length ≤ maxLen → l0_3.length * 16 ≤ 140737488351232 → (∀ x ∈ l0_3, Wf50 x) → (Lit.int .i64 a1).wf = true → (Lit.int .i64 a2).wf = true → (Lit.int .i64 a3).wf = true → ∃ k, chargeparklaw33_BillExactly.f k a0_0 a0_1 a0_2 l0_3 a1 a2 a3 = some true := by
  intro s0 s1 s2 l p u f _ _ _ _ _ _ _ _ _
  refine ⟨62 + 1 + 1, ?_⟩
  unfold chargeparklaw33_BillExactly.f
  rw [head33, Option.bind_some]
  obtain ⟨b, hb, _⟩ := refFew33 (⟨#[]⟩ : ByteArray) [] 0 [] [] s0 s1 s2 l
  rw [hb, Option.bind_some]
  cases b with
  | false =>
    rw [if_neg (by simp)]
    simp only [chargeparklaw33_BillExactly.j0]
    rw [if_neg (by simp)]
    exact BE_j1 ..
  | true =>
    rw [if_pos rfl, refSes _ _ _ _ _ (by omega), Option.bind_some]
    simp only [chargeparklaw33_BillExactly.j0]
    cases hs : svalB s0 s1 s2 l with
    | false => rw [if_neg (by simp)]; exact BE_j1 ..
    | true =>
      rw [if_pos rfl]
      by_cases c1 : p < 0
      · rw [if_pos c1]; exact BE_j1 ..
      rw [if_neg c1]
      by_cases c2 : p > 100000
      · rw [if_pos c2]; exact BE_j1 ..
      rw [if_neg c2]
      by_cases c3 : u < 1
      · rw [if_pos c3]; exact BE_j1 ..
      rw [if_neg c3]
      by_cases c4 : u > 1440
      · rw [if_pos c4]; exact BE_j1 ..
      rw [if_neg c4]
      by_cases c5 : f < 0
      · rw [if_pos c5]; exact BE_j1 ..
      rw [if_neg c5]
      by_cases c6 : f > 1440
      · rw [decide_eq_true c6]; exact BE_j1 ..
      rw [decide_eq_false c6]
      simp only [chargeparklaw33_BillExactly.j1]
      rw [if_neg (by simp)]
      have hl := (sval_iff hs).2.1
      exact BE_l0 hs (by omega) (by omega) (by omega) l.length 62 0 0 (by omega) (by omega) (by omega) (by omega) rfl (by omega)

end Go.Proofs.Ytbkkgaiokmnmgaa.Pure
