/- The reference of the chains, Check and Append: they compute what the program computes. -/
import Derived.Test.YtenkffjlpdappaaPChain
import Derived.Test.YtenkffjlpdappaaPChainR
import Derived.Test.YtenkffjlpdappaaPrx24
import Derived.Test.YtenkffjlpdappaaPrx23
namespace Go.Proofs.Ytenkffjlpdappaa.Pr
open Go.RowKit Go.Proofs.YtenkffjlpdappaaW.PrintWords Go.Proofs.YtenkffjlpdappaaW.PrintLast Go.Proofs.YtenkffjlpdappaaW.PrintMore
set_option linter.unusedVariables false
theorem ref_check_l0 (s : Int) (l : List S44) (hl : l.length ≤ 1000000) : ∀ (k i : Nat), l.length + 10 < i + k → i ≤ l.length → (∀ j, j < i → okAt l j = true ∧ linkOkAt s l j = true) → chargeparkref40_Check.l0 k (stF s l i) l (i : Int) = some (chkI s l)
  | 0, i, h, h1, _ => by omega
  | k + 1, i, h, h1, hok => by
    have st : (i < l.length → (okAt l i && linkOkAt s l i) = false) → chkI s l = if i = l.length then -1 else (i : Int) := fun h3 => stop_eq h1 (fun j hj => (hok j hj).1) (fun j hj => (hok j hj).2) h3
    simp only [chargeparkref40_Check.l0]
    by_cases c : (i : Int) < (l.length : Int)
    · have hi : i < l.length := by omega
      obtain ⟨k', rfl⟩ : ∃ k', k = k' + 9 := ⟨k - 9, by omega⟩
      rw [if_pos c, ref_fits l i hi hl, Option.bind_some]
      cases ho : okAt l i with
      | false => rw [if_neg (by simp), st (fun _ => by rw [ho]; rfl), if_neg (by omega)]
      | true =>
        rw [if_pos rfl, if_pos (by omega), ref_link, Option.bind_some]
        by_cases e : (rd_T44 l i).f4 = linkF [(rd_T44 l i).f0, (rd_T44 l i).f1, (rd_T44 l i).f2, (rd_T44 l i).f3] (stF s l i) 32
        · rw [if_pos e, wrapK (x := (i : Int) + 1) (by omega) (by omega)]
          have h4 : (rd_T44 l i).f4 = stF s l (i + 1) := by unfold stF; rw [if_neg (by omega), show ((i + 1 : Nat) : Int) - 1 = (i : Int) by omega]
          rw [h4, show (i : Int) + 1 = ((i + 1 : Nat) : Int) by omega]
          refine ref_check_l0 s l hl (k' + 9) (i + 1) (by omega) (by omega) (fun j hj => ?_)
          by_cases q : j = i
          · subst q; exact ⟨ho, linkOk_iff.2 e⟩
          · exact hok j (by omega)
        · rw [if_neg e, st (fun _ => by rw [ho, Bool.true_and]; cases q : linkOkAt s l i with | false => rfl | true => exact absurd (linkOk_iff.1 q) e), if_neg (by omega)]
    · rw [if_neg c, st (fun q => absurd q (by omega)), if_pos (by omega)]
theorem ref_check (s : Int) (l : List S44) (k : Nat) (hl : l.length ≤ 1000000) (hk : l.length + 10 < k) : chargeparkref40_Check.f k s l = some (chkI s l) := by
  unfold chargeparkref40_Check.f
  exact ref_check_l0 s l hl k 0 (by omega) (by omega) (fun j hj => absurd hj (Nat.not_lt_zero _))
theorem take_next {l : List S44} {i : Nat} (h : i < l.length) : l.take i ++ [(⟨(rd_T44 l (i : Int)).f0, (rd_T44 l (i : Int)).f1, (rd_T44 l (i : Int)).f2, (rd_T44 l (i : Int)).f3, (rd_T44 l (i : Int)).f4⟩ : S44)] = l.take (i + 1) := by
  rw [List.take_succ_eq_append_getElem h]
  congr 2
  unfold rd_T44
  rw [List.getD_eq_getElem?_getD, Int.toNat_natCast, List.getElem?_eq_getElem h]
  rfl
theorem ref_append_l0 (s : Int) (l : List S44) (hl : l.length ≤ 64) (a b c q0 q1 q2 q3 q4 : Int) : ∀ (k i : Nat), l.length + 20 < i + k → i ≤ l.length → chargeparkref40_Append.l0 k s l a b c (l.length : Int) (l.take i) (i : Int) q0 q1 q2 q3 q4 = chargeparkref40_Append.l0 (k + i - l.length) s l a b c (l.length : Int) l (l.length : Int) q0 q1 q2 q3 q4
  | 0, i, h, h1 => by omega
  | k + 1, i, h, h1 => by
    by_cases e : i = l.length
    · subst e; rw [List.take_length, show k + 1 + l.length - l.length = k + 1 by omega]
    · rw [chargeparkref40_Append.l0, if_pos (by omega), if_pos (by omega), if_pos (by omega), if_pos (by rw [List.length_take]; omega), take_next (by omega), wrapK (x := (i : Int) + 1) (by omega) (by omega), show (i : Int) + 1 = ((i + 1 : Nat) : Int) by omega, ref_append_l0 s l hl a b c q0 q1 q2 q3 q4 k (i + 1) (by omega) (by omega), show k + (i + 1) - l.length = k + 1 + i - l.length by omega]
theorem ref_append (s : Int) (l : List S44) (k : Nat) (a b c : Int) (hl : l.length ≤ 100) (hk : l.length + 30 < k) : chargeparkref40_Append.f k s l a b c = chain_Append.f s l a b c := by
  unfold chargeparkref40_Append.f chain_Append.f
  rw [ref_check s l k (by omega) (by omega), Option.bind_some]
  have hr := chk_range s l
  by_cases g1 : 0 ≤ chkI s l
  · rw [if_neg (by omega), if_pos g1]
  rw [if_pos (by omega), if_neg g1]
  have h64 := chk_len g1
  by_cases g2 : l.length = 64
  · rw [if_pos (by omega), if_pos g2]
  rw [if_neg (by omega), if_neg g2, wrapK (x := (l.length : Int) + 1) (by omega) (by omega), ref_valid, Option.bind_some]
  cases v : rvalidB a ((l.length : Int) + 1) b c with
  | false => rw [if_neg (by simp), if_pos rfl]
  | true =>
    rw [if_pos rfl, if_neg (by simp)]
    have h0 := ref_append_l0 s l h64 a b c a ((l.length : Int) + 1) b c 0 k 0 (by omega) (by omega)
    rw [List.take_zero] at h0
    rw [show (0 : Int) = ((0 : Nat) : Int) from rfl, show chargeparkref40_Append.l0 k s l a b c (l.length : Int) [] ((0 : Nat) : Int) a ((l.length : Int) + 1) b c ((0 : Nat) : Int) = _ from h0]
    obtain ⟨k', hk'⟩ : ∃ k', k + 0 - l.length = k' + 20 := ⟨k - l.length - 20, by omega⟩
    rw [hk', chargeparkref40_Append.l0, if_neg (by omega)]
    by_cases g3 : l.length = 0
    · rw [if_neg (by omega), if_pos g3, show k' + 19 = (k' + 10) + 9 by omega, ref_link, Option.bind_some, if_pos (by omega)]; rfl
    · rw [if_pos (by omega), if_neg g3, wrapK (x := (l.length : Int) - 1) (by omega) (by omega), if_pos (by omega), if_pos (by omega)]
      generalize rd_T44 l ((l.length : Int) - 1) = p
      have J : ∀ t : Bool, t = decide (b < p.f2 ∨ a = p.f0 ∧ c < p.f3) → chargeparkref40_Append.j1 (k' + 19) p.f4 a b l t a ((l.length : Int) + 1) b c 0 p.f0 p.f1 p.f2 p.f3 p.f4 = if refusedI a b c p.f0 p.f2 p.f3 = 0 then some (l ++ [⟨a, (l.length : Int) + 1, b, c, linkF [a, (l.length : Int) + 1, b, c] p.f4 32⟩], 0) else some ([], refusedI a b c p.f0 p.f2 p.f3) := by
        rintro t rfl
        have hl3 : l.length < 3518437208883 := by omega
        rw [show k' + 19 = (k' + 9 + 9) + 1 by omega, chargeparkref40_Append.j1]
        unfold refusedI
        by_cases w1 : b < p.f2 ∨ a = p.f0 ∧ c < p.f3
        · rw [decide_eq_true w1, if_pos rfl, if_pos w1, if_neg (by decide)]
        · rw [decide_eq_false w1, if_neg (by simp), if_neg w1]
          by_cases w2 : a = p.f0
          · have hn : ¬ (a ≠ p.f0 ∧ p.f2 < b) := fun q => q.1 w2
            rw [if_pos w2, ref_link, Option.bind_some, if_pos hl3, if_neg hn, if_pos rfl]
          · rw [if_neg w2]
            by_cases w3 : b = p.f2
            · have hn : ¬ (a ≠ p.f0 ∧ p.f2 < b) := by omega
              rw [if_pos w3, ref_link, Option.bind_some, if_pos hl3, if_neg hn, if_pos rfl]
            · have hn : a ≠ p.f0 ∧ p.f2 < b := ⟨w2, by omega⟩
              rw [if_neg w3, if_pos hn, if_neg (by decide)]
      by_cases w1 : b < p.f2
      · rw [if_pos w1]; exact J _ (by rw [decide_eq_true (.inl w1)])
      · rw [if_neg w1]
        by_cases w2 : a = p.f0
        · rw [if_pos w2]; exact J _ (by simp [w1, w2])
        · rw [if_neg w2]; exact J _ (by simp [w1, w2])
end Go.Proofs.Ytenkffjlpdappaa.Pr
