import Derived.Test.YtbkkgaiokmnmgaaRows
import Derived.Test.YtbkkgaiokmnmgaaPrx0
import Derived.WalkKit
import Derived.ProofKit
import Derived.OpenShut
import Derived.ChangeOld
/- The head's words, read once: the dump's first row is long, and the kernel's own run over it, asked anew for each law, outgrows its memory. -/
namespace Go.Proofs.Ytbkkgaiokmnmgaa.HeadW
open Go.ChangeShapes Go.WideShapes Go.ChangeAt
set_option maxRecDepth 100000
def signs : List Char := ['h', 'a', 'r', 'n', 'e', 's', 's', ' ', '9', '5', '5', '9', 'b', 'a', '4', '5', 'b', '4', '1', 'a', '2', 'a', '5', '2', '5', 'b', 'a', '9', 'a', '3', '5', '7', 'f', 'c', '6', '1', 'a', '0', '3', '8', 'a', '3', '9', 'a', 'e', '9', 'e', 'f', 'd', '9', '8', 'f', '4', '3', 'e', '7', '8', '8', '3', '5', '2', '8', '4', 'b', '7', '6', '7', 'd', 'b', '2', '3', 'd', ' ', 'c', 'u', 't', ' ', 'a', 't', ' ', 'c', 'h', 'a', 'r', 'g', 'e', 'p', 'a', 'r', 'k', '/', 'c', 'h', 'a', 'r', 'g', 'e', 'p', 'a', 'r', 'k', 'l', 'a', 'w', '3', '3', '.', 'B', 'i', 'l', 'l', 'M', 'a', 't', 'c', 'h', 'e', 's', 'R', 'e', 'f', 'e', 'r', 'e', 'n', 'c', 'e', ' ', 'c', 'h', 'a', 'r', 'g', 'e', 'p', 'a', 'r', 'k', '/', 'c', 'h', 'a', 'r', 'g', 'e', 'p', 'a', 'r', 'k', 'l', 'a', 'w', '3', '3', '.', 'B', 'i', 'l', 'l', 'S', 'u', 'm', 's', ' ', 'c', 'h', 'a', 'r', 'g', 'e', 'p', 'a', 'r', 'k', '/', 'c', 'h', 'a', 'r', 'g', 'e', 'p', 'a', 'r', 'k', 'l', 'a', 'w', '3', '3', '.', 'B', 'i', 'l', 'l', 'M', 'o', 'r', 'e', ' ', 'c', 'h', 'a', 'r', 'g', 'e', 'p', 'a', 'r', 'k', '/', 'c', 'h', 'a', 'r', 'g', 'e', 'p', 'a', 'r', 'k', 'l', 'a', 'w', '3', '3', '.', 'B', 'i', 'l', 'l', 'E', 'x', 'a', 'c', 't', 'l', 'y', ' ', 'c', 'h', 'a', 'r', 'g', 'e', 'p', 'a', 'r', 'k', '/', 'c', 'h', 'a', 'r', 'g', 'e', 'p', 'a', 'r', 'k', 'l', 'a', 'w', '3', '3', '.', 'B', 'i', 'l', 'l', 'P', 'a', 'r', 't', 's', ' ', 'c', 'h', 'a', 'r', 'g', 'e', 'p', 'a', 'r', 'k', '/', 'c', 'h', 'a', 'r', 'g', 'e', 'p', 'a', 'r', 'k', 'l', 'a', 'w', '3', '3', '.', 'B', 'i', 'l', 'l', 'O', 'r', 'd', 'e', 'r', ' ', 'c', 'h', 'a', 'r', 'g', 'e', 'p', 'a', 'r', 'k', '/', 'c', 'h', 'a', 'r', 'g', 'e', 'p', 'a', 'r', 'k', 'l', 'a', 'w', '3', '3', '.', 'B', 'i', 'l', 'l', 'W', 'e', 'e', 'k', 's', ' ', 'c', 'h', 'a', 'r', 'g', 'e', 'p', 'a', 'r', 'k', '/', 'c', 'h', 'a', 'r', 'g', 'e', 'p', 'a', 'r', 'k', 'l', 'a', 'w', '3', '3', '.', 'B', 'i', 'l', 'l', 'F', 'r', 'e', 'e', ' ', 'c', 'h', 'a', 'r', 'g', 'e', 'p', 'a', 'r', 'k', '/', 'c', 'h', 'a', 'r', 'g', 'e', 'p', 'a', 'r', 'k', 'l', 'a', 'w', '3', '4', '.', 'L', 'o', 'o', 'p', 'h', 'o', 'l', 'e', 'P', 'a', 'r', 't', 's', ' ', 'c', 'h', 'a', 'r', 'g', 'e', 'p', 'a', 'r', 'k', '/', 'c', 'h', 'a', 'r', 'g', 'e', 'p', 'a', 'r', 'k', 'l', 'a', 'w', '3', '4', '.', 'L', 'o', 'o', 'p', 'h', 'o', 'l', 'e', 'F', 'o', 'u', 'n', 'd', ' ', 'c', 'h', 'a', 'r', 'g', 'e', 'p', 'a', 'r', 'k', '/', 'c', 'h', 'a', 'r', 'g', 'e', 'p', 'a', 'r', 'k', 'l', 'a', 'w', '3', '4', '.', 'L', 'o', 'o', 'p', 'h', 'o', 'l', 'e', 'N', 'o', 'n', 'e', ' ', 'c', 'h', 'a', 'r', 'g', 'e', 'p', 'a', 'r', 'k', '/', 'c', 'h', 'a', 'r', 'g', 'e', 'p', 'a', 'r', 'k', 'l', 'a', 'w', '3', '4', '.', 'L', 'o', 'o', 'p', 'h', 'o', 'l', 'e', 'S', 't', 'a', 'r', 't', 'e', 'd', ' ', 'c', 'h', 'a', 'r', 'g', 'e', 'p', 'a', 'r', 'k', '/', 'c', 'h', 'a', 'r', 'g', 'e', 'p', 'a', 'r', 'k', 'l', 'a', 'w', '3', '4', '.', 'L', 'o', 'o', 'p', 'h', 'o', 'l', 'e', 'F', 'r', 'e', 'e', ' ', 'c', 'h', 'a', 'r', 'g', 'e', 'p', 'a', 'r', 'k', '/', 'c', 'h', 'a', 'r', 'g', 'e', 'p', 'a', 'r', 'k', 'l', 'a', 'w', '3', '4', '.', 'L', 'o', 'o', 'p', 'h', 'o', 'l', 'e', 'M', 'o', 'r', 'e', ' ', 'c', 'h', 'a', 'r', 'g', 'e', 'p', 'a', 'r', 'k', '/', 'c', 'h', 'a', 'r', 'g', 'e', 'p', 'a', 'r', 'k', 'l', 'a', 'w', '3', '4', '.', 'L', 'o', 'o', 'p', 'h', 'o', 'l', 'e', 'S', 't', 'e', 'p', 's', ' ', 'c', 'h', 'a', 'r', 'g', 'e', 'p', 'a', 'r', 'k', '/', 'c', 'h', 'a', 'r', 'g', 'e', 'p', 'a', 'r', 'k', 'l', 'a', 'w', '3', '5', '.', 'Q', 'u', 'o', 't', 'e', 'W', 'i', 'd', 'e', 'r', ' ', 'c', 'h', 'a', 'r', 'g', 'e', 'p', 'a', 'r', 'k', '/', 'c', 'h', 'a', 'r', 'g', 'e', 'p', 'a', 'r', 'k', 'l', 'a', 'w', '3', '5', '.', 'Q', 'u', 'o', 't', 'e', 'C', 'a', 'p', 's', ' ', 'c', 'h', 'a', 'r', 'g', 'e', 'p', 'a', 'r', 'k', '/', 'c', 'h', 'a', 'r', 'g', 'e', 'p', 'a', 'r', 'k', 'l', 'a', 'w', '3', '5', '.', 'Q', 'u', 'o', 't', 'e', 'C', 'o', 'v', 'e', 'r', 's', ' ', 'c', 'h', 'a', 'r', 'g', 'e', 'p', 'a', 'r', 'k', '/', 'c', 'h', 'a', 'r', 'g', 'e', 'p', 'a', 'r', 'k', 'l', 'a', 'w', '3', '5', '.', 'Q', 'u', 'o', 't', 'e', 'A', 'r', 't', 'i', 'c', 'l', 'e', 's', ' ', 'c', 'h', 'a', 'r', 'g', 'e', 'p', 'a', 'r', 'k', '/', 'c', 'h', 'a', 'r', 'g', 'e', 'p', 'a', 'r', 'k', 'l', 'a', 'w', '3', '5', '.', 'Q', 'u', 'o', 't', 'e', 'B', 'o', 'u', 'n', 'd', 's', ' ', 'c', 'h', 'a', 'r', 'g', 'e', 'p', 'a', 'r', 'k', '/', 'c', 'h', 'a', 'r', 'g', 'e', 'p', 'a', 'r', 'k', 'l', 'a', 'w', '3', '5', '.', 'Q', 'u', 'o', 't', 'e', 'R', 'e', 'a', 'c', 'h', 'e', 'd', ' ', 'c', 'h', 'a', 'r', 'g', 'e', 'p', 'a', 'r', 'k', '/', 'c', 'h', 'a', 'r', 'g', 'e', 'p', 'a', 'r', 'k', 'l', 'a', 'w', '3', '5', '.', 'Q', 'u', 'o', 't', 'e', 'M', 'i', 'n', 'u', 't', 'e']
theorem head_is : Try.prog.initOrder = String.ofList signs := by kernel_rfl
theorem head_list : Try.prog.initOrder.toList = signs := by rw [head_is, String.toList_ofList]
theorem lf : Try.prog.liftsFinal = false := by
  unfold Program.liftsFinal Program.headLifts
  rw [head_list]
  kernel_rfl
theorem a1 : (behindMainWord (wordsSigns signs)).head? = some "cut".toList := by kernel_rfl
theorem a2 : ("cut".toList == "gc".toList) = false := by kernel_rfl
theorem a3 : Try.prog.laysLater = false := by kernel_rfl
theorem a4 : Try.prog.bearsReflect = false := by kernel_rfl
theorem a5 : Try.prog.doorFits [] = true := by kernel_rfl
theorem a6 : stripLifts liftWords (behindMainWord (wordsSigns signs)) = ([], behindMainWord (wordsSigns signs)) := by kernel_rfl
theorem a7 : ("cut".toList == "spec".toList) = false := by kernel_rfl
theorem head_parts : ∃ rest, behindMainWord (wordsSigns signs) = "cut".toList :: rest := by
  have h := a1
  cases hb : behindMainWord (wordsSigns signs) with
  | nil => rw [hb] at h; cases h
  | cons c rest => rw [hb] at h; exact ⟨rest, by rw [Option.some.inj h]⟩
theorem me_of (P : Program) (g : List Char) (rest : List (List Char)) (h0 : P.initOrder.toList = g) (h : behindMainWord (wordsSigns g) = "cut".toList :: rest) (h6 : stripLifts liftWords (behindMainWord (wordsSigns g)) = ([], behindMainWord (wordsSigns g))) (a3 : P.laysLater = false) (a4 : P.bearsReflect = false) (a5 : P.doorFits [] = true) : P.mayEnter = true := by
  rw [h] at h6
  unfold Program.mayEnter
  rw [h0, h]
  dsimp only
  rw [h6, a3, a4, a5]
  simp only [List.head?_cons, beq_self_eq_true, Bool.not_false, Bool.or_true, Bool.and_true, Bool.true_and]
  simp
theorem mk_of (P : Program) (g : List Char) (rest : List (List Char)) (h0 : P.initOrder.toList = g) (h : behindMainWord (wordsSigns g) = "cut".toList :: rest) : P.make = some .cut := by
  unfold Program.make
  rw [h0, h]
  dsimp only
  rw [a2, a7, beq_self_eq_true, Bool.false_or, Bool.true_or, if_neg (by decide), if_pos rfl]
theorem me : Try.prog.mayEnter = true := by
  obtain ⟨rest, h⟩ := head_parts
  exact me_of _ _ rest head_list h a6 a3 a4 a5
theorem mk : Try.prog.make = some .cut := by
  obtain ⟨rest, h⟩ := head_parts
  exact mk_of _ _ rest head_list h
/-- The closed facts of a row, limb by limb. -/
theorem joined_of (P : Program) (f : FuncId) (fn : Func) (s : ChangeSpec) (c : OpenClaim) (hl : P.liftsFinal = false) (hm : P.mayEnter = true) (hk : P.make = some .cut) (cl : c.lifted = false) (ck : c.make = .cut)
    (h1 : (c.wf (OpenSpec.ofChange s) && laidOutB P && mapsRowed P && fn.params.all (P.readableRec ·) && namedTie P c.named s.vars && (c.stops == []) && (P.stops == []) && (c.knobs == []) && (P.stopKnobs == [])) = true)
    (h2 : (c.inPlace == P.inPlace f) = true) (h3 : (c.unfollowed == P.unfollowed f) = true) (h4 : (c.recurses == P.recurses f) = true) (h5 : (c.named == P.varsNamed f) = true)
    (h6 : ((c.maps == (fn.params.toList ++ s.plain.varTypes P).any (P.mapsRec ·)) && (c.ifaces == (fn.params.toList ++ s.plain.varTypes P).any (P.ifacesRec ·)) && (c.mapsOut == P.mapsAmong fn.resultTypes.toList) &&
      (c.loops == (fn.params.toList ++ s.plain.varTypes P).any (P.loopsFrom ·)) && (c.wideKeys == (fn.params.toList ++ s.plain.varTypes P ++ fn.resultTypes.toList).any (P.wideKeysFrom ·)) &&
      s.vars.all (P.varReadable ·) && fn.resultTypes.all (fun t => P.readableRec t && decide (t < P.types.size)) && (c.ifacesOut == fn.resultTypes.toList.any (P.ifacesRec ·)) && (c.loopsOut == fn.resultTypes.toList.any (P.loopsFrom ·))) = true)
    (h7 : ((c.plainKeys == P.plainKeys) && c.shortTexts.isNone && P.stopsHeard) = true)
    (h8 : ((c.kinds == (if c.domain.isEmpty then [] else fn.params.toList.map fun t => match P.underlying t with | some (.int k) => some k | _ => none)) && (c.pinned == c.pinnedBy) &&
      (c.veiled == (fn.params.toList ++ s.plain.varTypes P ++ fn.resultTypes.toList).any (P.veiledRec ·)) && c.veiledFits P fn.params.toList (fn.params.toList ++ s.plain.varTypes P ++ fn.resultTypes.toList)) = true) : joinedFacts P f fn s c = true := by
  unfold joinedFacts
  rw [hl, hm, hk, cl, ck]
  simp only [Bool.and_eq_true] at h1 h6 h7 h8 ⊢
  simp only [h1, h2, h3, h4, h5, h6, h7, h8, and_self, true_and, and_true]
  exact ⟨⟨rfl, rfl⟩, h8.1.1.1⟩
end Go.Proofs.Ytbkkgaiokmnmgaa.HeadW
