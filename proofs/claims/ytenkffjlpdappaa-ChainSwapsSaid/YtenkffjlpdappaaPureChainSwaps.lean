/- For any readings in order, if all registers of one meter grow by the same number, and stay valid, no energy changes, also if it was swapped. -/
import Derived.Test.YtenkffjlpdappaaPrx30
import Derived.Test.YtenkffjlpdappaaPrOpn
import Derived.Test.YtenkffjlpdappaaPChain
namespace Go.Proofs.Ytenkffjlpdappaa.Pure
open Go.RowKit Go.Proofs.Ytenkffjlpdappaa.Pr Go.Proofs.YtenkffjlpdappaaW.PrintWords Go.Proofs.YtenkffjlpdappaaW.PrintLast

theorem rd_setS {l : List S44} {x : S44} {n k : Nat} (h : k ≠ n) : rd_T44 (l.set n x) (k : Int) = rd_T44 l k := by
  unfold rd_T44
  rw [List.getD_eq_getElem?_getD, List.getD_eq_getElem?_getD, Int.toNat_natCast, List.getElem?_set_ne (fun e => h e.symm)]
theorem rd_setS_same {l : List S44} {x : S44} {n : Nat} (h : n < l.length) : rd_T44 (l.set n x) (n : Int) = x := by
  unfold rd_T44
  rw [List.getD_eq_getElem?_getD, Int.toNat_natCast, List.getElem?_set_self h]; rfl
/-- A reading whose register has grown, if it is of that meter. -/
def gr (s more : Int) (x : S44) : S44 := if x.f0 = s then ⟨x.f0, x.f1, x.f2, x.f3 + more, x.f4⟩ else x
theorem gr_f0 (s more : Int) (x : S44) : (gr s more x).f0 = x.f0 := by unfold gr; split <;> rfl
theorem gr_f1 (s more : Int) (x : S44) : (gr s more x).f1 = x.f1 := by unfold gr; split <;> rfl
theorem gr_f2 (s more : Int) (x : S44) : (gr s more x).f2 = x.f2 := by unfold gr; split <;> rfl
theorem gr_f3 (s more : Int) (x : S44) : (gr s more x).f3 = if x.f0 = s then x.f3 + more else x.f3 := by unfold gr; split <;> rfl
theorem ok_gr {l m : List S44} {s more : Int} (h0 : 0 ≤ more) (hm : ∀ j, j < l.length → rd_T44 m (j : Int) = gr s more (rd_T44 l (j : Int)) ∧ ((rd_T44 l (j : Int)).f0 = s → (rd_T44 l (j : Int)).f3 ≤ 1000000000 - more)) {k : Nat} (hk : k < l.length) (ho : okAt l k = true) : okAt m k = true := by
  unfold okAt rvalidB at ho ⊢
  simp only [Bool.and_eq_true, Bool.or_eq_true, decide_eq_true_eq] at ho ⊢
  obtain ⟨o1, ⟨o2, o3, o4, o5, o6, o7, o8, o9⟩, o10, o11⟩ := ho
  rw [(hm k hk).1, gr_f0, gr_f1, gr_f2, gr_f3]
  have b1 := (hm k hk).2
  refine ⟨o1, ⟨o2, o3, o4, o5, o6, o7, by split <;> omega, by split <;> omega⟩, o10, ?_⟩
  rcases o11 with o | o
  · exact .inl o
  · by_cases z : k = 0
    · exact .inl z
    · refine .inr ?_
      rw [show (k : Int) - 1 = ((k - 1 : Nat) : Int) by omega] at o ⊢
      rw [(hm (k - 1) (by omega)).1, gr_f0, gr_f2, gr_f3]
      unfold refusedI at o ⊢
      generalize rd_T44 l (k : Int) = x at *
      generalize rd_T44 l ((k - 1 : Nat) : Int) = y at *
      by_cases c : x.f2 < y.f2 ∨ x.f0 = y.f0 ∧ x.f3 < y.f3
      · rw [if_pos c] at o; omega
      · rw [if_neg c] at o
        rw [if_neg (by
          rintro (q | ⟨q1, q2⟩)
          · exact c (.inl q)
          · refine c (.inr ⟨q1, ?_⟩)
            rw [q1] at q2
            by_cases e : y.f0 = s
            · rw [if_pos e, if_pos e] at q2; omega
            · rw [if_neg e, if_neg e] at q2; omega)]
        exact o
theorem d_gr {l m : List S44} {s more : Int} (hm : ∀ j, j < l.length → rd_T44 m (j : Int) = gr s more (rd_T44 l (j : Int)) ∧ ((rd_T44 l (j : Int)).f0 = s → (rd_T44 l (j : Int)).f3 ≤ 1000000000 - more)) {k : Nat} (h0 : 0 < k) (hk : k < l.length) : dI m k = dI l k := by
  unfold dI
  rw [show (k : Int) - 1 = ((k - 1 : Nat) : Int) by omega, (hm k hk).1, (hm (k - 1) (by omega)).1, gr_f0, gr_f0, gr_f3, gr_f3]
  generalize rd_T44 l (k : Int) = x
  generalize rd_T44 l ((k - 1 : Nat) : Int) = y
  by_cases e : x.f0 = y.f0
  · rw [if_pos e, if_pos e, e]
    by_cases g : y.f0 = s
    · rw [if_pos g, if_pos g]; omega
    · rw [if_neg g, if_neg g]
  · rw [if_neg e, if_neg e]
theorem en_gr {l m : List S44} {s more : Int} (a b : Int) (hm : ∀ j, j < l.length → rd_T44 m (j : Int) = gr s more (rd_T44 l (j : Int)) ∧ ((rd_T44 l (j : Int)).f0 = s → (rd_T44 l (j : Int)).f3 ≤ 1000000000 - more)) : ∀ n, n ≤ l.length → enI m a b n = enI l a b n
  | 0, _ => rfl
  | n + 1, h => by
    rw [enI, enI, en_gr a b hm n (by omega)]
    by_cases c : 0 < n ∧ a ≤ (n : Int) ∧ (n : Int) < b
    · rw [if_pos c, if_pos c, d_gr hm c.1 (by omega)]
    · rw [if_neg c, if_neg c]
theorem swaps_l0 (l : List S44) (hl : l.length ≤ 64) (hwf : ∀ j, j < l.length → -9223372036854775808 ≤ (rd_T44 l (j : Int)).f3) (more p q s : Int) (h0 : 0 ≤ more) (h1 : more ≤ 1000000) :
    ∀ (k i : Nat) (m : List S44), l.length < i + k → i ≤ l.length → m.length = l.length → (∀ j, j < i → rd_T44 m (j : Int) = gr s more (rd_T44 l (j : Int)) ∧ ((rd_T44 l (j : Int)).f0 = s → (rd_T44 l (j : Int)).f3 ≤ 1000000000 - more)) → (∀ j, i ≤ j → j < l.length → rd_T44 m (j : Int) = rd_T44 l (j : Int)) →
      chargeparklaw40_ChainSwaps.l0 k l more true p q s m (m.length : Int) (i : Int) = some true
  | 0, i, m, h, h2, _, _, _ => by omega
  | k + 1, i, m, h, h2, hm, hd, hr => by
    simp only [chargeparklaw40_ChainSwaps.l0]
    by_cases c : (i : Int) < (m.length : Int)
    · have hi : i < l.length := by omega
      have he := hr i (Nat.le_refl _) hi
      have hlow := hwf i hi
      rw [if_pos c, if_pos (by omega), if_pos c, he, wrapK (x := 1000000000 - more) (by omega) (by omega), wrapK (x := (i : Int) + 1) (by omega) (by omega), show (i : Int) + 1 = ((i + 1 : Nat) : Int) by omega, Int.toNat_natCast]
      by_cases e : (rd_T44 l (i : Int)).f0 = s
      · rw [if_pos e]
        by_cases g : (rd_T44 l (i : Int)).f3 > 1000000000 - more
        · rw [if_pos g]
        · rw [if_neg g, wrapK (x := (rd_T44 l (i : Int)).f3 + more) (by omega) (by omega)]
          have hx : (⟨(rd_T44 l (i : Int)).f0, (rd_T44 l (i : Int)).f1, (rd_T44 l (i : Int)).f2, (rd_T44 l (i : Int)).f3 + more, (rd_T44 l (i : Int)).f4⟩ : S44) = gr s more (rd_T44 l (i : Int)) := by unfold gr; rw [if_pos e]
          rw [hx]
          have ih := swaps_l0 l hl hwf more p q s h0 h1 k (i + 1) (m.set i (gr s more (rd_T44 l (i : Int)))) (by omega) (by omega) (by rw [List.length_set]; exact hm) (fun j hj => by
            by_cases w : j = i
            · subst w; exact ⟨rd_setS_same (by omega), fun _ => by omega⟩
            · rw [rd_setS w]; exact hd j (by omega)) (fun j hj hj2 => by rw [rd_setS (by omega)]; exact hr j (by omega) hj2)
          rw [List.length_set] at ih
          exact ih
      · rw [if_neg e]
        exact swaps_l0 l hl hwf more p q s h0 h1 k (i + 1) m (by omega) (by omega) hm (fun j hj => by
            by_cases w : j = i
            · subst w; exact ⟨by rw [he]; unfold gr; rw [if_neg e], fun q => absurd q e⟩
            · exact hd j (by omega)) (fun j hj hj2 => hr j (by omega) hj2)
    · rw [if_neg c]
      have hd' : ∀ j, j < l.length → rd_T44 m (j : Int) = gr s more (rd_T44 l (j : Int)) ∧ ((rd_T44 l (j : Int)).f0 = s → (rd_T44 l (j : Int)).f3 ≤ 1000000000 - more) := fun j hj => hd j (by omega)
      unfold chain_Energy.f
      by_cases o : ordAll l = true ∧ 1 ≤ mn p q ∧ mn p q ≤ mx p q ∧ mx p q ≤ (l.length : Int)
      · have om : ordAll m = true := by
          have hs := firstBad_spec (okAt l) l.length 0
          have ol := o.1
          unfold ordAll at ol ⊢
          rw [decide_eq_true_eq] at ol
          rw [ol] at hs
          rw [decide_eq_true_eq, hm]
          exact firstBad_eq (okAt m) l.length 0 l.length (Nat.zero_le _) (by omega) (fun j _ hj => ok_gr h0 hd' hj (hs.2.2.1 j (Nat.zero_le _) hj)) (fun q => absurd q (by omega))
        rw [if_pos o, if_pos ⟨om, o.2.1, o.2.2.1, by rw [hm]; exact o.2.2.2⟩, hm, en_gr _ _ hd' l.length (Nat.le_refl _)]
        simp
      · rw [if_neg o]
        split <;> simp
theorem ChainSwaps :
    ∀ (l0 : List (S44)) (a1 : Int) (a2 : Int) (a3 : Int) (a4 : Int), l0.length ≤ maxLen → l0.length * 40 ≤ 140737488351232 → (∀ x ∈ l0, Wf44 x) → (Lit.int .u8 a1).wf = true → (Lit.int .i64 a2).wf = true → (Lit.int .u8 a3).wf = true → (Lit.int .u8 a4).wf = true → ∃ k, chargeparklaw40_ChainSwaps.f k l0 a1 a2 a3 a4 = some true := by
  intro l w more a b hl1 hl2 hwf hw hmore ha hb
  refine ⟨l.length + 9, ?_⟩
  unfold chargeparklaw40_ChainSwaps.f
  rw [head40, Option.bind_some]
  by_cases c0 : (l.length : Int) = 0
  · rw [if_pos c0]; simp [chargeparklaw40_ChainSwaps.j0]
  rw [if_neg c0]
  by_cases c1 : (l.length : Int) > 64
  · rw [if_pos c1]; simp [chargeparklaw40_ChainSwaps.j0]
  rw [if_neg c1]
  by_cases c2 : more < 0
  · rw [if_pos c2]; simp [chargeparklaw40_ChainSwaps.j0]
  rw [if_neg c2]
  by_cases c3 : more > 1000000
  · rw [decide_eq_true c3]; simp [chargeparklaw40_ChainSwaps.j0]
  rw [decide_eq_false c3]
  simp only [chargeparklaw40_ChainSwaps.j0]
  rw [if_neg (by simp), if_neg c0]
  have w8 : 0 ≤ w ∧ w < 256 := by simp [Lit.wf, IntKind.min, IntKind.max, IntKind.signed, IntKind.bits] at hw; omega
  rw [wrapK (x := w) (by omega) (by omega)]
  have p0 : 0 ≤ Int.tmod w (l.length : Int) := Int.tmod_nonneg _ w8.1
  have p1 : Int.tmod w (l.length : Int) < (l.length : Int) := Int.tmod_lt_of_pos _ (by omega)
  rw [if_pos p0, if_pos p1, Option.bind_some, if_pos (by simp; omega), Option.bind_some, List.nil_append]
  refine swaps_l0 l (by omega) (fun j hj => ?_) more _ _ _ (by omega) (by omega) (l.length + 8) 0 l (by omega) (by omega) rfl (fun j hj => absurd hj (Nat.not_lt_zero _)) (fun j _ _ => rfl)
  have hmem : rd_T44 l (j : Int) ∈ l := by
    unfold rd_T44
    rw [List.getD_eq_getElem?_getD, Int.toNat_natCast, List.getElem?_eq_getElem hj]
    exact List.getElem_mem hj
  have := hwf _ hmem
  unfold Wf44 at this
  have h3 := this.2.2.2.1
  simp [Lit.wf, IntKind.min, IntKind.max, IntKind.signed, IntKind.bits] at h3
  omega

end Go.Proofs.Ytenkffjlpdappaa.Pure
