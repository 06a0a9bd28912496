/- For any chain that is right, if one byte of one number of a reading, or of its link, is changed, Check returns exactly the index of this reading. -/
import Derived.Test.YtenkffjlpdappaaPrx15
import Derived.Test.YtenkffjlpdappaaPrOpn
import Derived.Test.YtenkffjlpdappaaPChain
import Derived.Test.YtenkffjlpdappaaPChainT
import Derived.Test.YtenkffjlpdappaaPChainB
namespace Go.Proofs.Ytenkffjlpdappaa.Pure
open Go.RowKit Go.Proofs.Ytenkffjlpdappaa.Pr Go.Proofs.YtenkffjlpdappaaW.PrintWords Go.Proofs.YtenkffjlpdappaaW.PrintLast

theorem rd_set {l : List S44} {x : S44} {n k : Nat} (h : k ≠ n) : rd_T44 (l.set n x) (k : Int) = rd_T44 l k := by
  unfold rd_T44
  rw [List.getD_eq_getElem?_getD, List.getD_eq_getElem?_getD, Int.toNat_natCast, List.getElem?_set_ne (fun e => h e.symm)]
theorem rd_set_same {l : List S44} {x : S44} {n : Nat} (h : n < l.length) : rd_T44 (l.set n x) (n : Int) = x := by
  unfold rd_T44
  rw [List.getD_eq_getElem?_getD, Int.toNat_natCast, List.getElem?_set_self h]; rfl
theorem st_set {s : Int} {l : List S44} {x : S44} {n k : Nat} (h : k ≤ n) : stF s (l.set n x) k = stF s l k := by
  unfold stF
  by_cases z : k = 0
  · rw [if_pos z, if_pos z]
  · rw [if_neg z, if_neg z, show (k : Int) - 1 = ((k - 1 : Nat) : Int) by omega, rd_set (by omega)]
theorem ok_set {l : List S44} {x : S44} {n k : Nat} (h : k < n) : okAt (l.set n x) k = okAt l k := by
  unfold okAt
  rw [rd_set (by omega)]
  by_cases z : k = 0
  · rw [decide_eq_true z]; simp
  · rw [show (k : Int) - 1 = ((k - 1 : Nat) : Int) by omega, rd_set (by omega)]
theorem link_set {s : Int} {l : List S44} {x : S44} {n k : Nat} (h : k < n) : linkOkAt s (l.set n x) k = linkOkAt s l k := by
  unfold linkOkAt
  rw [rd_set (by omega), st_set (by omega)]
theorem ChainOneItem :
    ∀ (a0 : Int) (l1 : List (S44)) (a2 : Int) (a3 : Int) (a4 : Int) (a5 : Int), (Lit.int .u64 a0).wf = true → l1.length ≤ maxLen → l1.length * 40 ≤ 140737488351232 → (∀ x ∈ l1, Wf44 x) → (Lit.int .u8 a2).wf = true → (Lit.int .u8 a3).wf = true → (Lit.int .u8 a4).wf = true → (Lit.int .u8 a5).wf = true → ∃ k, chargeparklaw40_ChainOneItem.f k a0 l1 a2 a3 a4 a5 = some true := by
  intro a0 l i w a b ha hl1 hl2 hwf hi hw hat hb
  refine ⟨1, ?_⟩
  unfold chargeparklaw40_ChainOneItem.f
  rw [head40, Option.bind_some]
  by_cases c0 : (l.length : Int) = 0
  · rw [if_pos c0]; simp [chargeparklaw40_ChainOneItem.j0]
  rw [if_neg c0]
  by_cases c1 : (l.length : Int) > 64
  · rw [if_pos c1]; simp [chargeparklaw40_ChainOneItem.j0]
  rw [if_neg c1]
  by_cases c2 : b = 0
  · rw [if_pos c2]; simp [chargeparklaw40_ChainOneItem.j0]
  rw [if_neg c2]
  unfold chain_Check.f
  rw [Option.bind_some]
  by_cases c3 : chkI a0 l = -1
  rotate_left
  · rw [show (chkI a0 l != -1) = true from bne_iff_ne.2 c3]; simp [chargeparklaw40_ChainOneItem.j0]
  rw [c3]
  have i8 : 0 ≤ i ∧ i < 256 := by simp [Lit.wf, IntKind.min, IntKind.max, IntKind.signed, IntKind.bits] at hi; omega
  have a8 : 0 ≤ a ∧ a < 256 := by simp [Lit.wf, IntKind.min, IntKind.max, IntKind.signed, IntKind.bits] at hat; omega
  have b8 : 0 ≤ b ∧ b < 256 := by simp [Lit.wf, IntKind.min, IntKind.max, IntKind.signed, IntKind.bits] at hb; omega
  simp only [chargeparklaw40_ChainOneItem.j0]
  rw [if_neg (by decide), if_neg c0, Option.bind_some, if_pos (by simp; omega), Option.bind_some, List.nil_append, wrapK (x := i) (by omega) (by omega)]
  have p0 : 0 ≤ Int.tmod i (l.length : Int) := Int.tmod_nonneg _ i8.1
  have p1 : Int.tmod i (l.length : Int) < (l.length : Int) := Int.tmod_lt_of_pos _ (by omega)
  obtain ⟨n, hn⟩ := Int.eq_ofNat_of_zero_le p0
  rw [hn] at p0 p1 ⊢
  rw [if_pos p0, if_pos p1]
  obtain ⟨⟨r1, r2, r3, r4, r5⟩, hr⟩ : ∃ r, chargeparklaw40_changed.f (rd_T44 l n).f0 (rd_T44 l n).f1 (rd_T44 l n).f2 (rd_T44 l n).f3 (rd_T44 l n).f4 w a b = some r := by
    unfold chargeparklaw40_changed.f
    repeat' split
    all_goals exact ⟨_, rfl⟩
  rw [hr, Option.bind_some, if_pos trivial]
  unfold chain_Check.f
  rw [Option.bind_some, Int.toNat_natCast]
  have hall := chk_all c3
  have hnl : n < l.length := by omega
  have hst : ∀ k, k ≤ l.length → W64 (stF a0 l k) := fun k hk => by
    by_cases z : k = 0
    · unfold stF; rw [if_pos z]; exact W64_of_wf ha
    · unfold stF
      rw [if_neg z, show (k : Int) - 1 = ((k - 1 : Nat) : Int) by omega]
      have := (hall (k - 1) (by omega)).2
      rw [linkOk_iff] at this
      rw [this]
      exact stepK_w _ _
  have hbad := changed_bad (hst n (by omega)) a8.1 a8.2 b8.1 b8.2 c2 (linkOk_iff.1 (hall n hnl).2) hr
  have hbl : linkOkAt a0 (l.set n ⟨r1, r2, r3, r4, r5⟩) n = false := by
    cases q : linkOkAt a0 (l.set n ⟨r1, r2, r3, r4, r5⟩) n with
    | false => rfl
    | true => rw [linkOk_iff, rd_set_same hnl, st_set (Nat.le_refl _)] at q; exact absurd q hbad
  rw [stop_eq (s := a0) (l := l.set n ⟨r1, r2, r3, r4, r5⟩) (m := n) (by rw [List.length_set]; omega) (fun j hj => by rw [ok_set hj]; exact (hall j (by omega)).1) (fun j hj => by rw [link_set hj]; exact (hall j (by omega)).2) (fun _ => by rw [hbl, Bool.and_false]), if_neg (by rw [List.length_set]; omega)]
  simp

end Go.Proofs.Ytenkffjlpdappaa.Pure
