/- For any seed and readings, the beginning of a chain has the same first wrong reading, if this is one of its own, and is right otherwise. -/
import Derived.Test.YtenkffjlpdappaaPrx17
import Derived.Test.YtenkffjlpdappaaPrOpn
import Derived.Test.YtenkffjlpdappaaPChain
namespace Go.Proofs.Ytenkffjlpdappaa.Pure
open Go.RowKit Go.Proofs.Ytenkffjlpdappaa.Pr Go.Proofs.YtenkffjlpdappaaW.PrintWords Go.Proofs.YtenkffjlpdappaaW.PrintLast

theorem rd_take {l : List S44} {n k : Nat} (h : k < n) : rd_T44 (l.take n) (k : Int) = rd_T44 l k := by
  unfold rd_T44
  rw [List.getD_eq_getElem?_getD, List.getD_eq_getElem?_getD, Int.toNat_natCast, List.getElem?_take_of_lt h]
theorem ok_take {l : List S44} {n k : Nat} (h : k < n) : okAt (l.take n) k = okAt l k := by
  unfold okAt
  rw [rd_take h]
  by_cases z : k = 0
  · rw [decide_eq_true z]; simp
  · rw [show (k : Int) - 1 = ((k - 1 : Nat) : Int) by omega, rd_take (show k - 1 < n by omega)]
theorem link_take {s : Int} {l : List S44} {n k : Nat} (h : k < n) : linkOkAt s (l.take n) k = linkOkAt s l k := by
  unfold linkOkAt
  rw [rd_take h]
  unfold stF
  by_cases z : k = 0
  · rw [if_pos z, if_pos z]
  · rw [if_neg z, if_neg z, show (k : Int) - 1 = ((k - 1 : Nat) : Int) by omega, rd_take (show k - 1 < n by omega)]
theorem chk_take (s : Int) (l : List S44) (n : Nat) (hn : n ≤ l.length) : chkI s (l.take n) = if 0 ≤ chkI s l ∧ chkI s l < n then chkI s l else -1 := by
  have hs := firstBad_spec (fun k => okAt l k && linkOkAt s l k) l.length 0
  have hl : (l.take n).length = n := by rw [List.length_take]; omega
  obtain ⟨m, hm⟩ : ∃ m, firstBad (fun k => okAt l k && linkOkAt s l k) 0 l.length = m := ⟨_, rfl⟩
  rw [hm] at hs
  have hgood : ∀ j, j < m → okAt l j = true ∧ linkOkAt s l j = true := fun j hj => by have := hs.2.2.1 j (Nat.zero_le _) hj; simpa [Bool.and_eq_true] using this
  have hI : chkI s l = if m = l.length then -1 else (m : Int) := by unfold chkI; rw [hm]
  by_cases c : m < n
  · rw [stop_eq (s := s) (l := l.take n) (m := m) (by omega) (fun j hj => by rw [ok_take (by omega)]; exact (hgood j hj).1) (fun j hj => by rw [link_take (by omega)]; exact (hgood j hj).2) (fun _ => by rw [ok_take c, link_take c]; exact hs.2.2.2 (by omega))]
    have hI' : chkI s l = (m : Int) := by rw [hI, if_neg (by omega)]
    rw [hI', hl, if_neg (by omega), if_pos ⟨by omega, by omega⟩]
  · rw [stop_eq (s := s) (l := l.take n) (m := n) (by omega) (fun j hj => by rw [ok_take hj]; exact (hgood j (by omega)).1) (fun j hj => by rw [link_take hj]; exact (hgood j (by omega)).2) (fun h => by omega)]
    rw [hl, if_pos rfl]
    by_cases e : m = l.length
    · rw [show chkI s l = -1 by rw [hI, if_pos e], if_neg (by omega)]
    · rw [show chkI s l = (m : Int) by rw [hI, if_neg e], if_neg (by omega)]
theorem ChainBeginnings :
    ∀ (a0 : Int) (l1 : List (S44)) (a2 : Int), (Lit.int .u64 a0).wf = true → l1.length ≤ maxLen → l1.length * 40 ≤ 140737488351232 → (∀ x ∈ l1, Wf44 x) → (Lit.int .u8 a2).wf = true → chargeparklaw40_ChainBeginnings.f a0 l1 a2 = some true := by
  intro a l many ha _ _ _ hmany
  unfold chargeparklaw40_ChainBeginnings.f
  rw [head40, Option.bind_some]
  by_cases c1 : (l.length : Int) > 100
  · rw [if_pos c1]
  rw [if_neg c1]
  have h8 : 0 ≤ many ∧ many < 256 := by simp [Lit.wf, IntKind.min, IntKind.max, IntKind.signed, IntKind.bits] at hmany; omega
  rw [wrapK (x := (l.length : Int) + 1) (by omega) (by omega), wrapK (x := many) (by omega) (by omega), if_neg (by omega)]
  have hn0 : 0 ≤ Int.tmod many ((l.length : Int) + 1) := Int.tmod_nonneg _ h8.1
  have hn1 : Int.tmod many ((l.length : Int) + 1) < (l.length : Int) + 1 := Int.tmod_lt_of_pos _ (by omega)
  generalize Int.tmod many ((l.length : Int) + 1) = n at hn0 hn1
  unfold chain_Check.f
  rw [Option.bind_some, if_pos hn0, if_pos (by omega), Option.bind_some, chk_take a l n.toNat (by omega)]
  simp only [if_true]
  by_cases c2 : 0 ≤ chkI a l
  · rw [if_pos (show chkI a l ≥ 0 from c2)]
    by_cases c3 : chkI a l < n
    · rw [if_pos c3, if_pos ⟨c2, by omega⟩]; simp
    · rw [if_neg c3, if_neg (by omega)]; simp
  · rw [if_neg (show ¬ chkI a l ≥ 0 from c2), if_neg (by omega)]; simp

end Go.Proofs.Ytenkffjlpdappaa.Pure
