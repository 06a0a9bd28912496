/-
  No cell of these rows narrows 'for every input' (looked for: loops, veiled, ifaces, maps, wideKeys, modest, calm, conditions, laid).
  DERIVED. THE GIVEN ROWS OF THIS SEAT. 22 by the template 'for every input the law returns true; each argument reads behind the call as it read before'; 0 by the template 'total and deterministic' (their statements: YtbkkgaiokmnmgaaTotals.lean).
  GIVEN WITH THE SEED: the statements are not yours to turn. If you find one false, say at which input.
  Laid BY PROGRAM, IN A SANDBOX (cutbox-rows.mjs): the forced cells as the released guide's own fill.sh prints them over the translation 9457dda7685b0387… (all of the seat's roots in one cut). By AI agents, Wed Nov 11 2026. No macro, syntax, notation, axiom, sorry.
-/
import Derived.Test.YtbkkgaiokmnmgaaChecked
import GoSem.Claim
import GoSem.ClaimJoined
import GoSem.ClaimMapViews
import Derived.JoinedTies
import Derived.KernelRfl
namespace Go.Proofs.Ytbkkgaiokmnmgaa
/- THE CELL 'sum', in the pinned program and in every row, IS THE sha256 OF THE DUMP (.gsa) THAT YtbkkgaiokmnmgaaProg.lean LOADS. Nothing in Lean hashes anything: it is a label: what it is worth is what the hold of that sum in a sandbox is worth. -/
noncomputable def Try.pinned : Pinned := { name := "ytbkkgaiokmnmgaa", sum := "9457dda7685b0387f659c6b18e9fe492d02520641ee841617b78efeaf5b7a7c4", checked := Try.checked }
namespace Rows
def none {H : Type} : Left H := { results := [], args := [] }

/-- 'chargeparklaw33.BillMatchesReference': WHATEVER THE INPUT: true; the input reads as it did. -/
def billMatchesReferenceSpec : ChangeSpec := { name := "billMatchesReference", fn := fun _ => fun
  | [d1, d2, d3, d4] => { results := [.lit (.bool true)], args := [d1, d2, d3, d4] }
  | _ => none }
def billMatchesReferenceRow : OpenClaim := { program := "ytbkkgaiokmnmgaa", sum := "9457dda7685b0387f659c6b18e9fe492d02520641ee841617b78efeaf5b7a7c4", func := "chargepark/chargeparklaw33.BillMatchesReference", spec := "billMatchesReference", unfollowed := true, recurses := true, apart := false }
def BillMatchesReferenceSaid : Prop := billMatchesReferenceRow.holds Try.pinned (OpenSpec.ofChange billMatchesReferenceSpec)

/-- ITS FALSE NEIGHBOUR: 'it returns false'. Refute it at one input. -/
def billMatchesReferenceWrong : ChangeSpec := { name := "billMatchesReference", fn := fun _ => fun
  | [d1, d2, d3, d4] => { results := [.lit (.bool false)], args := [d1, d2, d3, d4] }
  | _ => none }
def BillMatchesReferenceWrongFalsely : Prop := billMatchesReferenceRow.holds Try.pinned (OpenSpec.ofChange billMatchesReferenceWrong)

/-- 'chargeparklaw33.BillSums': WHATEVER THE INPUT: true; the input reads as it did. -/
def billSumsSpec : ChangeSpec := { name := "billSums", fn := fun _ => fun
  | [d1, d2, d3] => { results := [.lit (.bool true)], args := [d1, d2, d3] }
  | _ => none }
def billSumsRow : OpenClaim := { program := "ytbkkgaiokmnmgaa", sum := "9457dda7685b0387f659c6b18e9fe492d02520641ee841617b78efeaf5b7a7c4", func := "chargepark/chargeparklaw33.BillSums", spec := "billSums", unfollowed := true, recurses := true, apart := false }
def BillSumsSaid : Prop := billSumsRow.holds Try.pinned (OpenSpec.ofChange billSumsSpec)

/-- ITS FALSE NEIGHBOUR: 'it returns false'. Refute it at one input. -/
def billSumsWrong : ChangeSpec := { name := "billSums", fn := fun _ => fun
  | [d1, d2, d3] => { results := [.lit (.bool false)], args := [d1, d2, d3] }
  | _ => none }
def BillSumsWrongFalsely : Prop := billSumsRow.holds Try.pinned (OpenSpec.ofChange billSumsWrong)

/-- 'chargeparklaw33.BillMore': WHATEVER THE INPUT: true; the input reads as it did. -/
def billMoreSpec : ChangeSpec := { name := "billMore", fn := fun _ => fun
  | [d1, d2, d3, d4, d5, d6] => { results := [.lit (.bool true)], args := [d1, d2, d3, d4, d5, d6] }
  | _ => none }
def billMoreRow : OpenClaim := { program := "ytbkkgaiokmnmgaa", sum := "9457dda7685b0387f659c6b18e9fe492d02520641ee841617b78efeaf5b7a7c4", func := "chargepark/chargeparklaw33.BillMore", spec := "billMore", unfollowed := true, recurses := true, apart := false }
def BillMoreSaid : Prop := billMoreRow.holds Try.pinned (OpenSpec.ofChange billMoreSpec)

/-- ITS FALSE NEIGHBOUR: 'it returns false'. Refute it at one input. -/
def billMoreWrong : ChangeSpec := { name := "billMore", fn := fun _ => fun
  | [d1, d2, d3, d4, d5, d6] => { results := [.lit (.bool false)], args := [d1, d2, d3, d4, d5, d6] }
  | _ => none }
def BillMoreWrongFalsely : Prop := billMoreRow.holds Try.pinned (OpenSpec.ofChange billMoreWrong)

/-- 'chargeparklaw33.BillExactly': WHATEVER THE INPUT: true; the input reads as it did. -/
def billExactlySpec : ChangeSpec := { name := "billExactly", fn := fun _ => fun
  | [d1, d2, d3, d4] => { results := [.lit (.bool true)], args := [d1, d2, d3, d4] }
  | _ => none }
def billExactlyRow : OpenClaim := { program := "ytbkkgaiokmnmgaa", sum := "9457dda7685b0387f659c6b18e9fe492d02520641ee841617b78efeaf5b7a7c4", func := "chargepark/chargeparklaw33.BillExactly", spec := "billExactly", unfollowed := true, recurses := true, apart := false }
def BillExactlySaid : Prop := billExactlyRow.holds Try.pinned (OpenSpec.ofChange billExactlySpec)

/-- ITS FALSE NEIGHBOUR: 'it returns false'. Refute it at one input. -/
def billExactlyWrong : ChangeSpec := { name := "billExactly", fn := fun _ => fun
  | [d1, d2, d3, d4] => { results := [.lit (.bool false)], args := [d1, d2, d3, d4] }
  | _ => none }
def BillExactlyWrongFalsely : Prop := billExactlyRow.holds Try.pinned (OpenSpec.ofChange billExactlyWrong)

/-- 'chargeparklaw33.BillParts': WHATEVER THE INPUT: true; the input reads as it did. -/
def billPartsSpec : ChangeSpec := { name := "billParts", fn := fun _ => fun
  | [d1, d2, d3, d4, d5] => { results := [.lit (.bool true)], args := [d1, d2, d3, d4, d5] }
  | _ => none }
def billPartsRow : OpenClaim := { program := "ytbkkgaiokmnmgaa", sum := "9457dda7685b0387f659c6b18e9fe492d02520641ee841617b78efeaf5b7a7c4", func := "chargepark/chargeparklaw33.BillParts", spec := "billParts", unfollowed := true, recurses := true, apart := false }
def BillPartsSaid : Prop := billPartsRow.holds Try.pinned (OpenSpec.ofChange billPartsSpec)

/-- ITS FALSE NEIGHBOUR: 'it returns false'. Refute it at one input. -/
def billPartsWrong : ChangeSpec := { name := "billParts", fn := fun _ => fun
  | [d1, d2, d3, d4, d5] => { results := [.lit (.bool false)], args := [d1, d2, d3, d4, d5] }
  | _ => none }
def BillPartsWrongFalsely : Prop := billPartsRow.holds Try.pinned (OpenSpec.ofChange billPartsWrong)

/-- 'chargeparklaw33.BillOrder': WHATEVER THE INPUT: true; the input reads as it did. -/
def billOrderSpec : ChangeSpec := { name := "billOrder", fn := fun _ => fun
  | [d1, d2, d3, d4, d5] => { results := [.lit (.bool true)], args := [d1, d2, d3, d4, d5] }
  | _ => none }
def billOrderRow : OpenClaim := { program := "ytbkkgaiokmnmgaa", sum := "9457dda7685b0387f659c6b18e9fe492d02520641ee841617b78efeaf5b7a7c4", func := "chargepark/chargeparklaw33.BillOrder", spec := "billOrder", unfollowed := true, recurses := true, apart := false }
def BillOrderSaid : Prop := billOrderRow.holds Try.pinned (OpenSpec.ofChange billOrderSpec)

/-- ITS FALSE NEIGHBOUR: 'it returns false'. Refute it at one input. -/
def billOrderWrong : ChangeSpec := { name := "billOrder", fn := fun _ => fun
  | [d1, d2, d3, d4, d5] => { results := [.lit (.bool false)], args := [d1, d2, d3, d4, d5] }
  | _ => none }
def BillOrderWrongFalsely : Prop := billOrderRow.holds Try.pinned (OpenSpec.ofChange billOrderWrong)

/-- 'chargeparklaw33.BillWeeks': WHATEVER THE INPUT: true; the input reads as it did. -/
def billWeeksSpec : ChangeSpec := { name := "billWeeks", fn := fun _ => fun
  | [d1, d2, d3, d4] => { results := [.lit (.bool true)], args := [d1, d2, d3, d4] }
  | _ => none }
def billWeeksRow : OpenClaim := { program := "ytbkkgaiokmnmgaa", sum := "9457dda7685b0387f659c6b18e9fe492d02520641ee841617b78efeaf5b7a7c4", func := "chargepark/chargeparklaw33.BillWeeks", spec := "billWeeks", unfollowed := true, recurses := true, apart := false }
def BillWeeksSaid : Prop := billWeeksRow.holds Try.pinned (OpenSpec.ofChange billWeeksSpec)

/-- ITS FALSE NEIGHBOUR: 'it returns false'. Refute it at one input. -/
def billWeeksWrong : ChangeSpec := { name := "billWeeks", fn := fun _ => fun
  | [d1, d2, d3, d4] => { results := [.lit (.bool false)], args := [d1, d2, d3, d4] }
  | _ => none }
def BillWeeksWrongFalsely : Prop := billWeeksRow.holds Try.pinned (OpenSpec.ofChange billWeeksWrong)

/-- 'chargeparklaw33.BillFree': WHATEVER THE INPUT: true; the input reads as it did. -/
def billFreeSpec : ChangeSpec := { name := "billFree", fn := fun _ => fun
  | [d1, d2, d3, d4, d5] => { results := [.lit (.bool true)], args := [d1, d2, d3, d4, d5] }
  | _ => none }
def billFreeRow : OpenClaim := { program := "ytbkkgaiokmnmgaa", sum := "9457dda7685b0387f659c6b18e9fe492d02520641ee841617b78efeaf5b7a7c4", func := "chargepark/chargeparklaw33.BillFree", spec := "billFree", unfollowed := true, recurses := true, apart := false }
def BillFreeSaid : Prop := billFreeRow.holds Try.pinned (OpenSpec.ofChange billFreeSpec)

/-- ITS FALSE NEIGHBOUR: 'it returns false'. Refute it at one input. -/
def billFreeWrong : ChangeSpec := { name := "billFree", fn := fun _ => fun
  | [d1, d2, d3, d4, d5] => { results := [.lit (.bool false)], args := [d1, d2, d3, d4, d5] }
  | _ => none }
def BillFreeWrongFalsely : Prop := billFreeRow.holds Try.pinned (OpenSpec.ofChange billFreeWrong)

/-- 'chargeparklaw34.LoopholeParts': WHATEVER THE INPUT: true; the input reads as it did. -/
def loopholePartsSpec : ChangeSpec := { name := "loopholeParts", fn := fun _ => fun
  | [d1, d2] => { results := [.lit (.bool true)], args := [d1, d2] }
  | _ => none }
def loopholePartsRow : OpenClaim := { program := "ytbkkgaiokmnmgaa", sum := "9457dda7685b0387f659c6b18e9fe492d02520641ee841617b78efeaf5b7a7c4", func := "chargepark/chargeparklaw34.LoopholeParts", spec := "loopholeParts", unfollowed := true, recurses := true, apart := false }
def LoopholePartsSaid : Prop := loopholePartsRow.holds Try.pinned (OpenSpec.ofChange loopholePartsSpec)

/-- ITS FALSE NEIGHBOUR: 'it returns false'. Refute it at one input. -/
def loopholePartsWrong : ChangeSpec := { name := "loopholeParts", fn := fun _ => fun
  | [d1, d2] => { results := [.lit (.bool false)], args := [d1, d2] }
  | _ => none }
def LoopholePartsWrongFalsely : Prop := loopholePartsRow.holds Try.pinned (OpenSpec.ofChange loopholePartsWrong)

/-- 'chargeparklaw34.LoopholeFound': WHATEVER THE INPUT: true; the input reads as it did. -/
def loopholeFoundSpec : ChangeSpec := { name := "loopholeFound", fn := fun _ => fun
  | [d1, d2, d3, d4, d5] => { results := [.lit (.bool true)], args := [d1, d2, d3, d4, d5] }
  | _ => none }
def loopholeFoundRow : OpenClaim := { program := "ytbkkgaiokmnmgaa", sum := "9457dda7685b0387f659c6b18e9fe492d02520641ee841617b78efeaf5b7a7c4", func := "chargepark/chargeparklaw34.LoopholeFound", spec := "loopholeFound", unfollowed := true, recurses := true, apart := false }
def LoopholeFoundSaid : Prop := loopholeFoundRow.holds Try.pinned (OpenSpec.ofChange loopholeFoundSpec)

/-- ITS FALSE NEIGHBOUR: 'it returns false'. Refute it at one input. -/
def loopholeFoundWrong : ChangeSpec := { name := "loopholeFound", fn := fun _ => fun
  | [d1, d2, d3, d4, d5] => { results := [.lit (.bool false)], args := [d1, d2, d3, d4, d5] }
  | _ => none }
def LoopholeFoundWrongFalsely : Prop := loopholeFoundRow.holds Try.pinned (OpenSpec.ofChange loopholeFoundWrong)

/-- 'chargeparklaw34.LoopholeNone': WHATEVER THE INPUT: true; the input reads as it did. -/
def loopholeNoneSpec : ChangeSpec := { name := "loopholeNone", fn := fun _ => fun
  | [d1, d2, d3, d4, d5] => { results := [.lit (.bool true)], args := [d1, d2, d3, d4, d5] }
  | _ => none }
def loopholeNoneRow : OpenClaim := { program := "ytbkkgaiokmnmgaa", sum := "9457dda7685b0387f659c6b18e9fe492d02520641ee841617b78efeaf5b7a7c4", func := "chargepark/chargeparklaw34.LoopholeNone", spec := "loopholeNone", unfollowed := true, recurses := true, apart := false }
def LoopholeNoneSaid : Prop := loopholeNoneRow.holds Try.pinned (OpenSpec.ofChange loopholeNoneSpec)

/-- ITS FALSE NEIGHBOUR: 'it returns false'. Refute it at one input. -/
def loopholeNoneWrong : ChangeSpec := { name := "loopholeNone", fn := fun _ => fun
  | [d1, d2, d3, d4, d5] => { results := [.lit (.bool false)], args := [d1, d2, d3, d4, d5] }
  | _ => none }
def LoopholeNoneWrongFalsely : Prop := loopholeNoneRow.holds Try.pinned (OpenSpec.ofChange loopholeNoneWrong)

/-- 'chargeparklaw34.LoopholeStarted': WHATEVER THE INPUT: true; the input reads as it did. -/
def loopholeStartedSpec : ChangeSpec := { name := "loopholeStarted", fn := fun _ => fun
  | [d1, d2, d3, d4] => { results := [.lit (.bool true)], args := [d1, d2, d3, d4] }
  | _ => none }
def loopholeStartedRow : OpenClaim := { program := "ytbkkgaiokmnmgaa", sum := "9457dda7685b0387f659c6b18e9fe492d02520641ee841617b78efeaf5b7a7c4", func := "chargepark/chargeparklaw34.LoopholeStarted", spec := "loopholeStarted", unfollowed := true, recurses := true, apart := false }
def LoopholeStartedSaid : Prop := loopholeStartedRow.holds Try.pinned (OpenSpec.ofChange loopholeStartedSpec)

/-- ITS FALSE NEIGHBOUR: 'it returns false'. Refute it at one input. -/
def loopholeStartedWrong : ChangeSpec := { name := "loopholeStarted", fn := fun _ => fun
  | [d1, d2, d3, d4] => { results := [.lit (.bool false)], args := [d1, d2, d3, d4] }
  | _ => none }
def LoopholeStartedWrongFalsely : Prop := loopholeStartedRow.holds Try.pinned (OpenSpec.ofChange loopholeStartedWrong)

/-- 'chargeparklaw34.LoopholeFree': WHATEVER THE INPUT: true; the input reads as it did. -/
def loopholeFreeSpec : ChangeSpec := { name := "loopholeFree", fn := fun _ => fun
  | [d1, d2, d3, d4] => { results := [.lit (.bool true)], args := [d1, d2, d3, d4] }
  | _ => none }
def loopholeFreeRow : OpenClaim := { program := "ytbkkgaiokmnmgaa", sum := "9457dda7685b0387f659c6b18e9fe492d02520641ee841617b78efeaf5b7a7c4", func := "chargepark/chargeparklaw34.LoopholeFree", spec := "loopholeFree", unfollowed := true, recurses := true, apart := false }
def LoopholeFreeSaid : Prop := loopholeFreeRow.holds Try.pinned (OpenSpec.ofChange loopholeFreeSpec)

/-- ITS FALSE NEIGHBOUR: 'it returns false'. Refute it at one input. -/
def loopholeFreeWrong : ChangeSpec := { name := "loopholeFree", fn := fun _ => fun
  | [d1, d2, d3, d4] => { results := [.lit (.bool false)], args := [d1, d2, d3, d4] }
  | _ => none }
def LoopholeFreeWrongFalsely : Prop := loopholeFreeRow.holds Try.pinned (OpenSpec.ofChange loopholeFreeWrong)

/-- 'chargeparklaw34.LoopholeMore': WHATEVER THE INPUT: true; the input reads as it did. -/
def loopholeMoreSpec : ChangeSpec := { name := "loopholeMore", fn := fun _ => fun
  | [d1, d2, d3] => { results := [.lit (.bool true)], args := [d1, d2, d3] }
  | _ => none }
def loopholeMoreRow : OpenClaim := { program := "ytbkkgaiokmnmgaa", sum := "9457dda7685b0387f659c6b18e9fe492d02520641ee841617b78efeaf5b7a7c4", func := "chargepark/chargeparklaw34.LoopholeMore", spec := "loopholeMore", unfollowed := true, recurses := true, apart := false }
def LoopholeMoreSaid : Prop := loopholeMoreRow.holds Try.pinned (OpenSpec.ofChange loopholeMoreSpec)

/-- ITS FALSE NEIGHBOUR: 'it returns false'. Refute it at one input. -/
def loopholeMoreWrong : ChangeSpec := { name := "loopholeMore", fn := fun _ => fun
  | [d1, d2, d3] => { results := [.lit (.bool false)], args := [d1, d2, d3] }
  | _ => none }
def LoopholeMoreWrongFalsely : Prop := loopholeMoreRow.holds Try.pinned (OpenSpec.ofChange loopholeMoreWrong)

/-- 'chargeparklaw34.LoopholeSteps': WHATEVER THE INPUT: true; the input reads as it did. -/
def loopholeStepsSpec : ChangeSpec := { name := "loopholeSteps", fn := fun _ => fun
  | [d1, d2, d3, d4, d5] => { results := [.lit (.bool true)], args := [d1, d2, d3, d4, d5] }
  | _ => none }
def loopholeStepsRow : OpenClaim := { program := "ytbkkgaiokmnmgaa", sum := "9457dda7685b0387f659c6b18e9fe492d02520641ee841617b78efeaf5b7a7c4", func := "chargepark/chargeparklaw34.LoopholeSteps", spec := "loopholeSteps", unfollowed := true, recurses := true, apart := false }
def LoopholeStepsSaid : Prop := loopholeStepsRow.holds Try.pinned (OpenSpec.ofChange loopholeStepsSpec)

/-- ITS FALSE NEIGHBOUR: 'it returns false'. Refute it at one input. -/
def loopholeStepsWrong : ChangeSpec := { name := "loopholeSteps", fn := fun _ => fun
  | [d1, d2, d3, d4, d5] => { results := [.lit (.bool false)], args := [d1, d2, d3, d4, d5] }
  | _ => none }
def LoopholeStepsWrongFalsely : Prop := loopholeStepsRow.holds Try.pinned (OpenSpec.ofChange loopholeStepsWrong)

/-- 'chargeparklaw35.QuoteWider': WHATEVER THE INPUT: true; the input reads as it did. -/
def quoteWiderSpec : ChangeSpec := { name := "quoteWider", fn := fun _ => fun
  | [d1, d2, d3, d4, d5, d6, d7, d8] => { results := [.lit (.bool true)], args := [d1, d2, d3, d4, d5, d6, d7, d8] }
  | _ => none }
def quoteWiderRow : OpenClaim := { program := "ytbkkgaiokmnmgaa", sum := "9457dda7685b0387f659c6b18e9fe492d02520641ee841617b78efeaf5b7a7c4", func := "chargepark/chargeparklaw35.QuoteWider", spec := "quoteWider", unfollowed := true, recurses := true, apart := false }
def QuoteWiderSaid : Prop := quoteWiderRow.holds Try.pinned (OpenSpec.ofChange quoteWiderSpec)

/-- ITS FALSE NEIGHBOUR: 'it returns false'. Refute it at one input. -/
def quoteWiderWrong : ChangeSpec := { name := "quoteWider", fn := fun _ => fun
  | [d1, d2, d3, d4, d5, d6, d7, d8] => { results := [.lit (.bool false)], args := [d1, d2, d3, d4, d5, d6, d7, d8] }
  | _ => none }
def QuoteWiderWrongFalsely : Prop := quoteWiderRow.holds Try.pinned (OpenSpec.ofChange quoteWiderWrong)

/-- 'chargeparklaw35.QuoteCaps': WHATEVER THE INPUT: true; the input reads as it did. -/
def quoteCapsSpec : ChangeSpec := { name := "quoteCaps", fn := fun _ => fun
  | [d1, d2, d3, d4, d5, d6] => { results := [.lit (.bool true)], args := [d1, d2, d3, d4, d5, d6] }
  | _ => none }
def quoteCapsRow : OpenClaim := { program := "ytbkkgaiokmnmgaa", sum := "9457dda7685b0387f659c6b18e9fe492d02520641ee841617b78efeaf5b7a7c4", func := "chargepark/chargeparklaw35.QuoteCaps", spec := "quoteCaps", unfollowed := true, recurses := true, apart := false }
def QuoteCapsSaid : Prop := quoteCapsRow.holds Try.pinned (OpenSpec.ofChange quoteCapsSpec)

/-- ITS FALSE NEIGHBOUR: 'it returns false'. Refute it at one input. -/
def quoteCapsWrong : ChangeSpec := { name := "quoteCaps", fn := fun _ => fun
  | [d1, d2, d3, d4, d5, d6] => { results := [.lit (.bool false)], args := [d1, d2, d3, d4, d5, d6] }
  | _ => none }
def QuoteCapsWrongFalsely : Prop := quoteCapsRow.holds Try.pinned (OpenSpec.ofChange quoteCapsWrong)

/-- 'chargeparklaw35.QuoteCovers': WHATEVER THE INPUT: true; the input reads as it did. -/
def quoteCoversSpec : ChangeSpec := { name := "quoteCovers", fn := fun _ => fun
  | [d1, d2, d3, d4, d5, d6, d7] => { results := [.lit (.bool true)], args := [d1, d2, d3, d4, d5, d6, d7] }
  | _ => none }
def quoteCoversRow : OpenClaim := { program := "ytbkkgaiokmnmgaa", sum := "9457dda7685b0387f659c6b18e9fe492d02520641ee841617b78efeaf5b7a7c4", func := "chargepark/chargeparklaw35.QuoteCovers", spec := "quoteCovers", unfollowed := true, recurses := true, apart := false }
def QuoteCoversSaid : Prop := quoteCoversRow.holds Try.pinned (OpenSpec.ofChange quoteCoversSpec)

/-- ITS FALSE NEIGHBOUR: 'it returns false'. Refute it at one input. -/
def quoteCoversWrong : ChangeSpec := { name := "quoteCovers", fn := fun _ => fun
  | [d1, d2, d3, d4, d5, d6, d7] => { results := [.lit (.bool false)], args := [d1, d2, d3, d4, d5, d6, d7] }
  | _ => none }
def QuoteCoversWrongFalsely : Prop := quoteCoversRow.holds Try.pinned (OpenSpec.ofChange quoteCoversWrong)

/-- 'chargeparklaw35.QuoteArticles': WHATEVER THE INPUT: true; the input reads as it did. -/
def quoteArticlesSpec : ChangeSpec := { name := "quoteArticles", fn := fun _ => fun
  | [d1, d2, d3, d4, d5, d6] => { results := [.lit (.bool true)], args := [d1, d2, d3, d4, d5, d6] }
  | _ => none }
def quoteArticlesRow : OpenClaim := { program := "ytbkkgaiokmnmgaa", sum := "9457dda7685b0387f659c6b18e9fe492d02520641ee841617b78efeaf5b7a7c4", func := "chargepark/chargeparklaw35.QuoteArticles", spec := "quoteArticles", unfollowed := true, recurses := true, apart := false }
def QuoteArticlesSaid : Prop := quoteArticlesRow.holds Try.pinned (OpenSpec.ofChange quoteArticlesSpec)

/-- ITS FALSE NEIGHBOUR: 'it returns false'. Refute it at one input. -/
def quoteArticlesWrong : ChangeSpec := { name := "quoteArticles", fn := fun _ => fun
  | [d1, d2, d3, d4, d5, d6] => { results := [.lit (.bool false)], args := [d1, d2, d3, d4, d5, d6] }
  | _ => none }
def QuoteArticlesWrongFalsely : Prop := quoteArticlesRow.holds Try.pinned (OpenSpec.ofChange quoteArticlesWrong)

/-- 'chargeparklaw35.QuoteBounds': WHATEVER THE INPUT: true; the input reads as it did. -/
def quoteBoundsSpec : ChangeSpec := { name := "quoteBounds", fn := fun _ => fun
  | [d1, d2, d3, d4, d5, d6] => { results := [.lit (.bool true)], args := [d1, d2, d3, d4, d5, d6] }
  | _ => none }
def quoteBoundsRow : OpenClaim := { program := "ytbkkgaiokmnmgaa", sum := "9457dda7685b0387f659c6b18e9fe492d02520641ee841617b78efeaf5b7a7c4", func := "chargepark/chargeparklaw35.QuoteBounds", spec := "quoteBounds", unfollowed := true, recurses := true, apart := false }
def QuoteBoundsSaid : Prop := quoteBoundsRow.holds Try.pinned (OpenSpec.ofChange quoteBoundsSpec)

/-- ITS FALSE NEIGHBOUR: 'it returns false'. Refute it at one input. -/
def quoteBoundsWrong : ChangeSpec := { name := "quoteBounds", fn := fun _ => fun
  | [d1, d2, d3, d4, d5, d6] => { results := [.lit (.bool false)], args := [d1, d2, d3, d4, d5, d6] }
  | _ => none }
def QuoteBoundsWrongFalsely : Prop := quoteBoundsRow.holds Try.pinned (OpenSpec.ofChange quoteBoundsWrong)

/-- 'chargeparklaw35.QuoteReached': WHATEVER THE INPUT: true; the input reads as it did. -/
def quoteReachedSpec : ChangeSpec := { name := "quoteReached", fn := fun _ => fun
  | [d1, d2, d3, d4, d5] => { results := [.lit (.bool true)], args := [d1, d2, d3, d4, d5] }
  | _ => none }
def quoteReachedRow : OpenClaim := { program := "ytbkkgaiokmnmgaa", sum := "9457dda7685b0387f659c6b18e9fe492d02520641ee841617b78efeaf5b7a7c4", func := "chargepark/chargeparklaw35.QuoteReached", spec := "quoteReached", unfollowed := true, recurses := true, apart := false }
def QuoteReachedSaid : Prop := quoteReachedRow.holds Try.pinned (OpenSpec.ofChange quoteReachedSpec)

/-- ITS FALSE NEIGHBOUR: 'it returns false'. Refute it at one input. -/
def quoteReachedWrong : ChangeSpec := { name := "quoteReached", fn := fun _ => fun
  | [d1, d2, d3, d4, d5] => { results := [.lit (.bool false)], args := [d1, d2, d3, d4, d5] }
  | _ => none }
def QuoteReachedWrongFalsely : Prop := quoteReachedRow.holds Try.pinned (OpenSpec.ofChange quoteReachedWrong)

/-- 'chargeparklaw35.QuoteMinute': WHATEVER THE INPUT: true; the input reads as it did. -/
def quoteMinuteSpec : ChangeSpec := { name := "quoteMinute", fn := fun _ => fun
  | [d1, d2, d3, d4] => { results := [.lit (.bool true)], args := [d1, d2, d3, d4] }
  | _ => none }
def quoteMinuteRow : OpenClaim := { program := "ytbkkgaiokmnmgaa", sum := "9457dda7685b0387f659c6b18e9fe492d02520641ee841617b78efeaf5b7a7c4", func := "chargepark/chargeparklaw35.QuoteMinute", spec := "quoteMinute", unfollowed := true, recurses := true, apart := false }
def QuoteMinuteSaid : Prop := quoteMinuteRow.holds Try.pinned (OpenSpec.ofChange quoteMinuteSpec)

/-- ITS FALSE NEIGHBOUR: 'it returns false'. Refute it at one input. -/
def quoteMinuteWrong : ChangeSpec := { name := "quoteMinute", fn := fun _ => fun
  | [d1, d2, d3, d4] => { results := [.lit (.bool false)], args := [d1, d2, d3, d4] }
  | _ => none }
def QuoteMinuteWrongFalsely : Prop := quoteMinuteRow.holds Try.pinned (OpenSpec.ofChange quoteMinuteWrong)

/- THE SECOND FORM. 'bulk': how many values and letters a reading holds, each counted each time it is reached (what is shared counts as often as it is met; a slice's spare places count too). A statement '..UptoSaid' is the law's where the arguments, and the package variables that the reading takes, are together of bulk at most 1048576: NARROWER than '..Said'. Prove '..Said' where nothing that the law and all that it calls make is longer than what came in: it says more and counts as full. Else prove '..UptoSaid'. A law counts once. -/
mutual
def uptoBulk {H : Type} : DataW H → Nat
  | .lit (.string bytes) => bytes.length + 1
  | .lit _ => 1
  | .nil => 1
  | .ptr d => uptoBulk d + 1
  | .slice elems spare => uptoBulkAll elems + uptoBulkAll spare + 1
  | .agg parts => uptoBulkAll parts + 1
  | .iface _ d => uptoBulk d + 1
  | .map entries => uptoBulkEntries entries + 1
  | .held _ => 1
def uptoBulkAll {H : Type} : List (DataW H) → Nat
  | [] => 0
  | d :: r => uptoBulk d + uptoBulkAll r
def uptoBulkEntries {H : Type} : List (Lit × DataW H) → Nat
  | [] => 0
  | x :: r => uptoBulkEntry x + uptoBulkEntries r
def uptoBulkEntry {H : Type} : Lit × DataW H → Nat
  | (.string bytes, d) => bytes.length + uptoBulk d + 1
  | (_, d) => uptoBulk d + 1
 end
def uptoSmall : (H : Type) → List (DataW H) → Bool := fun _ ds => decide (uptoBulkAll ds ≤ 1048576)
def OpenSpec.upto (s : _root_.Go.ChangeSpec) : _root_.Go.OpenSpec := { _root_.Go.OpenSpec.ofChange s with cond := some uptoSmall }

/-- 'chargeparklaw33.BillMatchesReference', WHERE WHAT IT READS IS OF BULK AT MOST 1048576: true; the input reads as it did. -/
def billMatchesReferenceUptoRow : OpenClaim := { program := "ytbkkgaiokmnmgaa", sum := "9457dda7685b0387f659c6b18e9fe492d02520641ee841617b78efeaf5b7a7c4", func := "chargepark/chargeparklaw33.BillMatchesReference", spec := "billMatchesReference", unfollowed := true, recurses := true, apart := false, narrowed := true }
def BillMatchesReferenceUptoSaid : Prop := billMatchesReferenceUptoRow.holds Try.pinned (OpenSpec.upto billMatchesReferenceSpec)

/-- 'chargeparklaw33.BillSums', WHERE WHAT IT READS IS OF BULK AT MOST 1048576: true; the input reads as it did. -/
def billSumsUptoRow : OpenClaim := { program := "ytbkkgaiokmnmgaa", sum := "9457dda7685b0387f659c6b18e9fe492d02520641ee841617b78efeaf5b7a7c4", func := "chargepark/chargeparklaw33.BillSums", spec := "billSums", unfollowed := true, recurses := true, apart := false, narrowed := true }
def BillSumsUptoSaid : Prop := billSumsUptoRow.holds Try.pinned (OpenSpec.upto billSumsSpec)

/-- 'chargeparklaw33.BillMore', WHERE WHAT IT READS IS OF BULK AT MOST 1048576: true; the input reads as it did. -/
def billMoreUptoRow : OpenClaim := { program := "ytbkkgaiokmnmgaa", sum := "9457dda7685b0387f659c6b18e9fe492d02520641ee841617b78efeaf5b7a7c4", func := "chargepark/chargeparklaw33.BillMore", spec := "billMore", unfollowed := true, recurses := true, apart := false, narrowed := true }
def BillMoreUptoSaid : Prop := billMoreUptoRow.holds Try.pinned (OpenSpec.upto billMoreSpec)

/-- 'chargeparklaw33.BillExactly', WHERE WHAT IT READS IS OF BULK AT MOST 1048576: true; the input reads as it did. -/
def billExactlyUptoRow : OpenClaim := { program := "ytbkkgaiokmnmgaa", sum := "9457dda7685b0387f659c6b18e9fe492d02520641ee841617b78efeaf5b7a7c4", func := "chargepark/chargeparklaw33.BillExactly", spec := "billExactly", unfollowed := true, recurses := true, apart := false, narrowed := true }
def BillExactlyUptoSaid : Prop := billExactlyUptoRow.holds Try.pinned (OpenSpec.upto billExactlySpec)

/-- 'chargeparklaw33.BillParts', WHERE WHAT IT READS IS OF BULK AT MOST 1048576: true; the input reads as it did. -/
def billPartsUptoRow : OpenClaim := { program := "ytbkkgaiokmnmgaa", sum := "9457dda7685b0387f659c6b18e9fe492d02520641ee841617b78efeaf5b7a7c4", func := "chargepark/chargeparklaw33.BillParts", spec := "billParts", unfollowed := true, recurses := true, apart := false, narrowed := true }
def BillPartsUptoSaid : Prop := billPartsUptoRow.holds Try.pinned (OpenSpec.upto billPartsSpec)

/-- 'chargeparklaw33.BillOrder', WHERE WHAT IT READS IS OF BULK AT MOST 1048576: true; the input reads as it did. -/
def billOrderUptoRow : OpenClaim := { program := "ytbkkgaiokmnmgaa", sum := "9457dda7685b0387f659c6b18e9fe492d02520641ee841617b78efeaf5b7a7c4", func := "chargepark/chargeparklaw33.BillOrder", spec := "billOrder", unfollowed := true, recurses := true, apart := false, narrowed := true }
def BillOrderUptoSaid : Prop := billOrderUptoRow.holds Try.pinned (OpenSpec.upto billOrderSpec)

/-- 'chargeparklaw33.BillWeeks', WHERE WHAT IT READS IS OF BULK AT MOST 1048576: true; the input reads as it did. -/
def billWeeksUptoRow : OpenClaim := { program := "ytbkkgaiokmnmgaa", sum := "9457dda7685b0387f659c6b18e9fe492d02520641ee841617b78efeaf5b7a7c4", func := "chargepark/chargeparklaw33.BillWeeks", spec := "billWeeks", unfollowed := true, recurses := true, apart := false, narrowed := true }
def BillWeeksUptoSaid : Prop := billWeeksUptoRow.holds Try.pinned (OpenSpec.upto billWeeksSpec)

/-- 'chargeparklaw33.BillFree', WHERE WHAT IT READS IS OF BULK AT MOST 1048576: true; the input reads as it did. -/
def billFreeUptoRow : OpenClaim := { program := "ytbkkgaiokmnmgaa", sum := "9457dda7685b0387f659c6b18e9fe492d02520641ee841617b78efeaf5b7a7c4", func := "chargepark/chargeparklaw33.BillFree", spec := "billFree", unfollowed := true, recurses := true, apart := false, narrowed := true }
def BillFreeUptoSaid : Prop := billFreeUptoRow.holds Try.pinned (OpenSpec.upto billFreeSpec)

/-- 'chargeparklaw34.LoopholeParts', WHERE WHAT IT READS IS OF BULK AT MOST 1048576: true; the input reads as it did. -/
def loopholePartsUptoRow : OpenClaim := { program := "ytbkkgaiokmnmgaa", sum := "9457dda7685b0387f659c6b18e9fe492d02520641ee841617b78efeaf5b7a7c4", func := "chargepark/chargeparklaw34.LoopholeParts", spec := "loopholeParts", unfollowed := true, recurses := true, apart := false, narrowed := true }
def LoopholePartsUptoSaid : Prop := loopholePartsUptoRow.holds Try.pinned (OpenSpec.upto loopholePartsSpec)

/-- 'chargeparklaw34.LoopholeFound', WHERE WHAT IT READS IS OF BULK AT MOST 1048576: true; the input reads as it did. -/
def loopholeFoundUptoRow : OpenClaim := { program := "ytbkkgaiokmnmgaa", sum := "9457dda7685b0387f659c6b18e9fe492d02520641ee841617b78efeaf5b7a7c4", func := "chargepark/chargeparklaw34.LoopholeFound", spec := "loopholeFound", unfollowed := true, recurses := true, apart := false, narrowed := true }
def LoopholeFoundUptoSaid : Prop := loopholeFoundUptoRow.holds Try.pinned (OpenSpec.upto loopholeFoundSpec)

/-- 'chargeparklaw34.LoopholeNone', WHERE WHAT IT READS IS OF BULK AT MOST 1048576: true; the input reads as it did. -/
def loopholeNoneUptoRow : OpenClaim := { program := "ytbkkgaiokmnmgaa", sum := "9457dda7685b0387f659c6b18e9fe492d02520641ee841617b78efeaf5b7a7c4", func := "chargepark/chargeparklaw34.LoopholeNone", spec := "loopholeNone", unfollowed := true, recurses := true, apart := false, narrowed := true }
def LoopholeNoneUptoSaid : Prop := loopholeNoneUptoRow.holds Try.pinned (OpenSpec.upto loopholeNoneSpec)

/-- 'chargeparklaw34.LoopholeStarted', WHERE WHAT IT READS IS OF BULK AT MOST 1048576: true; the input reads as it did. -/
def loopholeStartedUptoRow : OpenClaim := { program := "ytbkkgaiokmnmgaa", sum := "9457dda7685b0387f659c6b18e9fe492d02520641ee841617b78efeaf5b7a7c4", func := "chargepark/chargeparklaw34.LoopholeStarted", spec := "loopholeStarted", unfollowed := true, recurses := true, apart := false, narrowed := true }
def LoopholeStartedUptoSaid : Prop := loopholeStartedUptoRow.holds Try.pinned (OpenSpec.upto loopholeStartedSpec)

/-- 'chargeparklaw34.LoopholeFree', WHERE WHAT IT READS IS OF BULK AT MOST 1048576: true; the input reads as it did. -/
def loopholeFreeUptoRow : OpenClaim := { program := "ytbkkgaiokmnmgaa", sum := "9457dda7685b0387f659c6b18e9fe492d02520641ee841617b78efeaf5b7a7c4", func := "chargepark/chargeparklaw34.LoopholeFree", spec := "loopholeFree", unfollowed := true, recurses := true, apart := false, narrowed := true }
def LoopholeFreeUptoSaid : Prop := loopholeFreeUptoRow.holds Try.pinned (OpenSpec.upto loopholeFreeSpec)

/-- 'chargeparklaw34.LoopholeMore', WHERE WHAT IT READS IS OF BULK AT MOST 1048576: true; the input reads as it did. -/
def loopholeMoreUptoRow : OpenClaim := { program := "ytbkkgaiokmnmgaa", sum := "9457dda7685b0387f659c6b18e9fe492d02520641ee841617b78efeaf5b7a7c4", func := "chargepark/chargeparklaw34.LoopholeMore", spec := "loopholeMore", unfollowed := true, recurses := true, apart := false, narrowed := true }
def LoopholeMoreUptoSaid : Prop := loopholeMoreUptoRow.holds Try.pinned (OpenSpec.upto loopholeMoreSpec)

/-- 'chargeparklaw34.LoopholeSteps', WHERE WHAT IT READS IS OF BULK AT MOST 1048576: true; the input reads as it did. -/
def loopholeStepsUptoRow : OpenClaim := { program := "ytbkkgaiokmnmgaa", sum := "9457dda7685b0387f659c6b18e9fe492d02520641ee841617b78efeaf5b7a7c4", func := "chargepark/chargeparklaw34.LoopholeSteps", spec := "loopholeSteps", unfollowed := true, recurses := true, apart := false, narrowed := true }
def LoopholeStepsUptoSaid : Prop := loopholeStepsUptoRow.holds Try.pinned (OpenSpec.upto loopholeStepsSpec)

/-- 'chargeparklaw35.QuoteWider', WHERE WHAT IT READS IS OF BULK AT MOST 1048576: true; the input reads as it did. -/
def quoteWiderUptoRow : OpenClaim := { program := "ytbkkgaiokmnmgaa", sum := "9457dda7685b0387f659c6b18e9fe492d02520641ee841617b78efeaf5b7a7c4", func := "chargepark/chargeparklaw35.QuoteWider", spec := "quoteWider", unfollowed := true, recurses := true, apart := false, narrowed := true }
def QuoteWiderUptoSaid : Prop := quoteWiderUptoRow.holds Try.pinned (OpenSpec.upto quoteWiderSpec)

/-- 'chargeparklaw35.QuoteCaps', WHERE WHAT IT READS IS OF BULK AT MOST 1048576: true; the input reads as it did. -/
def quoteCapsUptoRow : OpenClaim := { program := "ytbkkgaiokmnmgaa", sum := "9457dda7685b0387f659c6b18e9fe492d02520641ee841617b78efeaf5b7a7c4", func := "chargepark/chargeparklaw35.QuoteCaps", spec := "quoteCaps", unfollowed := true, recurses := true, apart := false, narrowed := true }
def QuoteCapsUptoSaid : Prop := quoteCapsUptoRow.holds Try.pinned (OpenSpec.upto quoteCapsSpec)

/-- 'chargeparklaw35.QuoteCovers', WHERE WHAT IT READS IS OF BULK AT MOST 1048576: true; the input reads as it did. -/
def quoteCoversUptoRow : OpenClaim := { program := "ytbkkgaiokmnmgaa", sum := "9457dda7685b0387f659c6b18e9fe492d02520641ee841617b78efeaf5b7a7c4", func := "chargepark/chargeparklaw35.QuoteCovers", spec := "quoteCovers", unfollowed := true, recurses := true, apart := false, narrowed := true }
def QuoteCoversUptoSaid : Prop := quoteCoversUptoRow.holds Try.pinned (OpenSpec.upto quoteCoversSpec)

/-- 'chargeparklaw35.QuoteArticles', WHERE WHAT IT READS IS OF BULK AT MOST 1048576: true; the input reads as it did. -/
def quoteArticlesUptoRow : OpenClaim := { program := "ytbkkgaiokmnmgaa", sum := "9457dda7685b0387f659c6b18e9fe492d02520641ee841617b78efeaf5b7a7c4", func := "chargepark/chargeparklaw35.QuoteArticles", spec := "quoteArticles", unfollowed := true, recurses := true, apart := false, narrowed := true }
def QuoteArticlesUptoSaid : Prop := quoteArticlesUptoRow.holds Try.pinned (OpenSpec.upto quoteArticlesSpec)

/-- 'chargeparklaw35.QuoteBounds', WHERE WHAT IT READS IS OF BULK AT MOST 1048576: true; the input reads as it did. -/
def quoteBoundsUptoRow : OpenClaim := { program := "ytbkkgaiokmnmgaa", sum := "9457dda7685b0387f659c6b18e9fe492d02520641ee841617b78efeaf5b7a7c4", func := "chargepark/chargeparklaw35.QuoteBounds", spec := "quoteBounds", unfollowed := true, recurses := true, apart := false, narrowed := true }
def QuoteBoundsUptoSaid : Prop := quoteBoundsUptoRow.holds Try.pinned (OpenSpec.upto quoteBoundsSpec)

/-- 'chargeparklaw35.QuoteReached', WHERE WHAT IT READS IS OF BULK AT MOST 1048576: true; the input reads as it did. -/
def quoteReachedUptoRow : OpenClaim := { program := "ytbkkgaiokmnmgaa", sum := "9457dda7685b0387f659c6b18e9fe492d02520641ee841617b78efeaf5b7a7c4", func := "chargepark/chargeparklaw35.QuoteReached", spec := "quoteReached", unfollowed := true, recurses := true, apart := false, narrowed := true }
def QuoteReachedUptoSaid : Prop := quoteReachedUptoRow.holds Try.pinned (OpenSpec.upto quoteReachedSpec)

/-- 'chargeparklaw35.QuoteMinute', WHERE WHAT IT READS IS OF BULK AT MOST 1048576: true; the input reads as it did. -/
def quoteMinuteUptoRow : OpenClaim := { program := "ytbkkgaiokmnmgaa", sum := "9457dda7685b0387f659c6b18e9fe492d02520641ee841617b78efeaf5b7a7c4", func := "chargepark/chargeparklaw35.QuoteMinute", spec := "quoteMinute", unfollowed := true, recurses := true, apart := false, narrowed := true }
def QuoteMinuteUptoSaid : Prop := quoteMinuteUptoRow.holds Try.pinned (OpenSpec.upto quoteMinuteSpec)

end Rows
end Go.Proofs.Ytbkkgaiokmnmgaa
