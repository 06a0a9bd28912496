/-
  No cell of these rows narrows 'for every input' (looked for: loops, veiled, ifaces, maps, wideKeys, modest, calm, conditions, laid).
  DERIVED. THE GIVEN ROWS OF THIS SEAT. 12 by the template 'for every input the law returns true; each argument reads behind the call as it read before'; 0 by the template 'total and deterministic' (their statements: YtnbfjdfmpadndaaTotals.lean).
  GIVEN WITH THE SEED: the statements are not yours to turn. If you find one false, say at which input.
  Laid BY PROGRAM, IN A SANDBOX (cutbox-rows.mjs): the forced cells as the released guide's own fill.sh prints them over the translation a4f25164cff11df8… (all of the seat's roots in one cut). By AI agents, Wed Nov 11 2026. No macro, syntax, notation, axiom, sorry.
-/
import Derived.Test.YtnbfjdfmpadndaaChecked
import GoSem.Claim
import GoSem.ClaimJoined
import GoSem.ClaimMapViews
import Derived.JoinedTies
import Derived.KernelRfl
namespace Go.Proofs.Ytnbfjdfmpadndaa
/- THE CELL 'sum', in the pinned program and in every row, IS THE sha256 OF THE DUMP (.gsa) THAT YtnbfjdfmpadndaaProg.lean LOADS. Nothing in Lean hashes anything: it is a label: what it is worth is what the hold of that sum in a sandbox is worth. -/
noncomputable def Try.pinned : Pinned := { name := "ytnbfjdfmpadndaa", sum := "a4f25164cff11df8027aa4915e9d56d9a1556ad98fa30904f7e155ae2b492a78", checked := Try.checked }
namespace Rows
def none {H : Type} : Left H := { results := [], args := [] }

/-- 'chargeparklaw26.DaysMatchesReference': WHATEVER THE INPUT: true; the input reads as it did. -/
def daysMatchesReferenceSpec : ChangeSpec := { name := "daysMatchesReference", fn := fun _ => fun
  | [d1, d2, d3] => { results := [.lit (.bool true)], args := [d1, d2, d3] }
  | _ => none }
def daysMatchesReferenceRow : OpenClaim := { program := "ytnbfjdfmpadndaa", sum := "a4f25164cff11df8027aa4915e9d56d9a1556ad98fa30904f7e155ae2b492a78", func := "chargepark/chargeparklaw26.DaysMatchesReference", spec := "daysMatchesReference", unfollowed := true, recurses := true, apart := false }
def DaysMatchesReferenceSaid : Prop := daysMatchesReferenceRow.holds Try.pinned (OpenSpec.ofChange daysMatchesReferenceSpec)

/-- ITS FALSE NEIGHBOUR: 'it returns false'. Refute it at one input. -/
def daysMatchesReferenceWrong : ChangeSpec := { name := "daysMatchesReference", fn := fun _ => fun
  | [d1, d2, d3] => { results := [.lit (.bool false)], args := [d1, d2, d3] }
  | _ => none }
def DaysMatchesReferenceWrongFalsely : Prop := daysMatchesReferenceRow.holds Try.pinned (OpenSpec.ofChange daysMatchesReferenceWrong)

/-- 'chargeparklaw26.DaysOffsets': WHATEVER THE INPUT: true; the input reads as it did. -/
def daysOffsetsSpec : ChangeSpec := { name := "daysOffsets", fn := fun _ => fun
  | [d1, d2] => { results := [.lit (.bool true)], args := [d1, d2] }
  | _ => none }
def daysOffsetsRow : OpenClaim := { program := "ytnbfjdfmpadndaa", sum := "a4f25164cff11df8027aa4915e9d56d9a1556ad98fa30904f7e155ae2b492a78", func := "chargepark/chargeparklaw26.DaysOffsets", spec := "daysOffsets", unfollowed := true, recurses := true, apart := false }
def DaysOffsetsSaid : Prop := daysOffsetsRow.holds Try.pinned (OpenSpec.ofChange daysOffsetsSpec)

/-- ITS FALSE NEIGHBOUR: 'it returns false'. Refute it at one input. -/
def daysOffsetsWrong : ChangeSpec := { name := "daysOffsets", fn := fun _ => fun
  | [d1, d2] => { results := [.lit (.bool false)], args := [d1, d2] }
  | _ => none }
def DaysOffsetsWrongFalsely : Prop := daysOffsetsRow.holds Try.pinned (OpenSpec.ofChange daysOffsetsWrong)

/-- 'chargeparklaw26.DaysCalm': WHATEVER THE INPUT: true; the input reads as it did. -/
def daysCalmSpec : ChangeSpec := { name := "daysCalm", fn := fun _ => fun
  | [d1, d2, d3] => { results := [.lit (.bool true)], args := [d1, d2, d3] }
  | _ => none }
def daysCalmRow : OpenClaim := { program := "ytnbfjdfmpadndaa", sum := "a4f25164cff11df8027aa4915e9d56d9a1556ad98fa30904f7e155ae2b492a78", func := "chargepark/chargeparklaw26.DaysCalm", spec := "daysCalm", unfollowed := true, recurses := true, apart := false }
def DaysCalmSaid : Prop := daysCalmRow.holds Try.pinned (OpenSpec.ofChange daysCalmSpec)

/-- ITS FALSE NEIGHBOUR: 'it returns false'. Refute it at one input. -/
def daysCalmWrong : ChangeSpec := { name := "daysCalm", fn := fun _ => fun
  | [d1, d2, d3] => { results := [.lit (.bool false)], args := [d1, d2, d3] }
  | _ => none }
def DaysCalmWrongFalsely : Prop := daysCalmRow.holds Try.pinned (OpenSpec.ofChange daysCalmWrong)

/-- 'chargeparklaw26.DaysChanges': WHATEVER THE INPUT: true; the input reads as it did. -/
def daysChangesSpec : ChangeSpec := { name := "daysChanges", fn := fun _ => fun
  | [d] => { results := [.lit (.bool true)], args := [d] }
  | _ => none }
def daysChangesRow : OpenClaim := { program := "ytnbfjdfmpadndaa", sum := "a4f25164cff11df8027aa4915e9d56d9a1556ad98fa30904f7e155ae2b492a78", func := "chargepark/chargeparklaw26.DaysChanges", spec := "daysChanges", unfollowed := true, recurses := true, apart := false }
def DaysChangesSaid : Prop := daysChangesRow.holds Try.pinned (OpenSpec.ofChange daysChangesSpec)

/-- ITS FALSE NEIGHBOUR: 'it returns false'. Refute it at one input. -/
def daysChangesWrong : ChangeSpec := { name := "daysChanges", fn := fun _ => fun
  | [d] => { results := [.lit (.bool false)], args := [d] }
  | _ => none }
def DaysChangesWrongFalsely : Prop := daysChangesRow.holds Try.pinned (OpenSpec.ofChange daysChangesWrong)

/-- 'chargeparklaw26.DaysWeeks': WHATEVER THE INPUT: true; the input reads as it did. -/
def daysWeeksSpec : ChangeSpec := { name := "daysWeeks", fn := fun _ => fun
  | [d1, d2] => { results := [.lit (.bool true)], args := [d1, d2] }
  | _ => none }
def daysWeeksRow : OpenClaim := { program := "ytnbfjdfmpadndaa", sum := "a4f25164cff11df8027aa4915e9d56d9a1556ad98fa30904f7e155ae2b492a78", func := "chargepark/chargeparklaw26.DaysWeeks", spec := "daysWeeks", unfollowed := true, recurses := true, apart := false }
def DaysWeeksSaid : Prop := daysWeeksRow.holds Try.pinned (OpenSpec.ofChange daysWeeksSpec)

/-- ITS FALSE NEIGHBOUR: 'it returns false'. Refute it at one input. -/
def daysWeeksWrong : ChangeSpec := { name := "daysWeeks", fn := fun _ => fun
  | [d1, d2] => { results := [.lit (.bool false)], args := [d1, d2] }
  | _ => none }
def DaysWeeksWrongFalsely : Prop := daysWeeksRow.holds Try.pinned (OpenSpec.ofChange daysWeeksWrong)

/-- 'chargeparklaw26.DaysHolidays': WHATEVER THE INPUT: true; the input reads as it did. -/
def daysHolidaysSpec : ChangeSpec := { name := "daysHolidays", fn := fun _ => fun
  | [d1, d2, d3] => { results := [.lit (.bool true)], args := [d1, d2, d3] }
  | _ => none }
def daysHolidaysRow : OpenClaim := { program := "ytnbfjdfmpadndaa", sum := "a4f25164cff11df8027aa4915e9d56d9a1556ad98fa30904f7e155ae2b492a78", func := "chargepark/chargeparklaw26.DaysHolidays", spec := "daysHolidays", unfollowed := true, recurses := true, apart := false }
def DaysHolidaysSaid : Prop := daysHolidaysRow.holds Try.pinned (OpenSpec.ofChange daysHolidaysSpec)

/-- ITS FALSE NEIGHBOUR: 'it returns false'. Refute it at one input. -/
def daysHolidaysWrong : ChangeSpec := { name := "daysHolidays", fn := fun _ => fun
  | [d1, d2, d3] => { results := [.lit (.bool false)], args := [d1, d2, d3] }
  | _ => none }
def DaysHolidaysWrongFalsely : Prop := daysHolidaysRow.holds Try.pinned (OpenSpec.ofChange daysHolidaysWrong)

/-- 'chargeparklaw26.DaysMoved': WHATEVER THE INPUT: true; the input reads as it did. -/
def daysMovedSpec : ChangeSpec := { name := "daysMoved", fn := fun _ => fun
  | [d1, d2] => { results := [.lit (.bool true)], args := [d1, d2] }
  | _ => none }
def daysMovedRow : OpenClaim := { program := "ytnbfjdfmpadndaa", sum := "a4f25164cff11df8027aa4915e9d56d9a1556ad98fa30904f7e155ae2b492a78", func := "chargepark/chargeparklaw26.DaysMoved", spec := "daysMoved", unfollowed := true, recurses := true, apart := false }
def DaysMovedSaid : Prop := daysMovedRow.holds Try.pinned (OpenSpec.ofChange daysMovedSpec)

/-- ITS FALSE NEIGHBOUR: 'it returns false'. Refute it at one input. -/
def daysMovedWrong : ChangeSpec := { name := "daysMoved", fn := fun _ => fun
  | [d1, d2] => { results := [.lit (.bool false)], args := [d1, d2] }
  | _ => none }
def DaysMovedWrongFalsely : Prop := daysMovedRow.holds Try.pinned (OpenSpec.ofChange daysMovedWrong)

/-- 'chargeparklaw07.CableSafe': WHATEVER THE INPUT: true; the input reads as it did. -/
def cableSafeSpec : ChangeSpec := { name := "cableSafe", fn := fun _ => fun
  | [d1, d2, d3] => { results := [.lit (.bool true)], args := [d1, d2, d3] }
  | _ => none }
def cableSafeRow : OpenClaim := { program := "ytnbfjdfmpadndaa", sum := "a4f25164cff11df8027aa4915e9d56d9a1556ad98fa30904f7e155ae2b492a78", func := "chargepark/chargeparklaw07.CableSafe", spec := "cableSafe", unfollowed := true, recurses := true, apart := false }
def CableSafeSaid : Prop := cableSafeRow.holds Try.pinned (OpenSpec.ofChange cableSafeSpec)

/-- ITS FALSE NEIGHBOUR: 'it returns false'. Refute it at one input. -/
def cableSafeWrong : ChangeSpec := { name := "cableSafe", fn := fun _ => fun
  | [d1, d2, d3] => { results := [.lit (.bool false)], args := [d1, d2, d3] }
  | _ => none }
def CableSafeWrongFalsely : Prop := cableSafeRow.holds Try.pinned (OpenSpec.ofChange cableSafeWrong)

/-- 'chargeparklaw07.CableTight': WHATEVER THE INPUT: true; the input reads as it did. -/
def cableTightSpec : ChangeSpec := { name := "cableTight", fn := fun _ => fun
  | [d1, d2, d3] => { results := [.lit (.bool true)], args := [d1, d2, d3] }
  | _ => none }
def cableTightRow : OpenClaim := { program := "ytnbfjdfmpadndaa", sum := "a4f25164cff11df8027aa4915e9d56d9a1556ad98fa30904f7e155ae2b492a78", func := "chargepark/chargeparklaw07.CableTight", spec := "cableTight", unfollowed := true, recurses := true, apart := false }
def CableTightSaid : Prop := cableTightRow.holds Try.pinned (OpenSpec.ofChange cableTightSpec)

/-- ITS FALSE NEIGHBOUR: 'it returns false'. Refute it at one input. -/
def cableTightWrong : ChangeSpec := { name := "cableTight", fn := fun _ => fun
  | [d1, d2, d3] => { results := [.lit (.bool false)], args := [d1, d2, d3] }
  | _ => none }
def CableTightWrongFalsely : Prop := cableTightRow.holds Try.pinned (OpenSpec.ofChange cableTightWrong)

/-- 'chargeparklaw07.CableWarmer': WHATEVER THE INPUT: true; the input reads as it did. -/
def cableWarmerSpec : ChangeSpec := { name := "cableWarmer", fn := fun _ => fun
  | [d1, d2, d3, d4, d5] => { results := [.lit (.bool true)], args := [d1, d2, d3, d4, d5] }
  | _ => none }
def cableWarmerRow : OpenClaim := { program := "ytnbfjdfmpadndaa", sum := "a4f25164cff11df8027aa4915e9d56d9a1556ad98fa30904f7e155ae2b492a78", func := "chargepark/chargeparklaw07.CableWarmer", spec := "cableWarmer", unfollowed := true, recurses := true, apart := false }
def CableWarmerSaid : Prop := cableWarmerRow.holds Try.pinned (OpenSpec.ofChange cableWarmerSpec)

/-- ITS FALSE NEIGHBOUR: 'it returns false'. Refute it at one input. -/
def cableWarmerWrong : ChangeSpec := { name := "cableWarmer", fn := fun _ => fun
  | [d1, d2, d3, d4, d5] => { results := [.lit (.bool false)], args := [d1, d2, d3, d4, d5] }
  | _ => none }
def CableWarmerWrongFalsely : Prop := cableWarmerRow.holds Try.pinned (OpenSpec.ofChange cableWarmerWrong)

/-- 'chargeparklaw07.CableRests': WHATEVER THE INPUT: true; the input reads as it did. -/
def cableRestsSpec : ChangeSpec := { name := "cableRests", fn := fun _ => fun
  | [d1, d2, d3] => { results := [.lit (.bool true)], args := [d1, d2, d3] }
  | _ => none }
def cableRestsRow : OpenClaim := { program := "ytnbfjdfmpadndaa", sum := "a4f25164cff11df8027aa4915e9d56d9a1556ad98fa30904f7e155ae2b492a78", func := "chargepark/chargeparklaw07.CableRests", spec := "cableRests", unfollowed := true, recurses := true, apart := false }
def CableRestsSaid : Prop := cableRestsRow.holds Try.pinned (OpenSpec.ofChange cableRestsSpec)

/-- ITS FALSE NEIGHBOUR: 'it returns false'. Refute it at one input. -/
def cableRestsWrong : ChangeSpec := { name := "cableRests", fn := fun _ => fun
  | [d1, d2, d3] => { results := [.lit (.bool false)], args := [d1, d2, d3] }
  | _ => none }
def CableRestsWrongFalsely : Prop := cableRestsRow.holds Try.pinned (OpenSpec.ofChange cableRestsWrong)

/-- 'chargeparklaw07.CableMargins': WHATEVER THE INPUT: true; the input reads as it did. -/
def cableMarginsSpec : ChangeSpec := { name := "cableMargins", fn := fun _ => fun
  | [d1, d2] => { results := [.lit (.bool true)], args := [d1, d2] }
  | _ => none }
def cableMarginsRow : OpenClaim := { program := "ytnbfjdfmpadndaa", sum := "a4f25164cff11df8027aa4915e9d56d9a1556ad98fa30904f7e155ae2b492a78", func := "chargepark/chargeparklaw07.CableMargins", spec := "cableMargins", unfollowed := true, recurses := true, apart := false }
def CableMarginsSaid : Prop := cableMarginsRow.holds Try.pinned (OpenSpec.ofChange cableMarginsSpec)

/-- ITS FALSE NEIGHBOUR: 'it returns false'. Refute it at one input. -/
def cableMarginsWrong : ChangeSpec := { name := "cableMargins", fn := fun _ => fun
  | [d1, d2] => { results := [.lit (.bool false)], args := [d1, d2] }
  | _ => none }
def CableMarginsWrongFalsely : Prop := cableMarginsRow.holds Try.pinned (OpenSpec.ofChange cableMarginsWrong)

/- THE SECOND FORM. 'bulk': how many values and letters a reading holds, each counted each time it is reached (what is shared counts as often as it is met; a slice's spare places count too). A statement '..UptoSaid' is the law's where the arguments, and the package variables that the reading takes, are together of bulk at most 1048576: NARROWER than '..Said'. Prove '..Said' where nothing that the law and all that it calls make is longer than what came in: it says more and counts as full. Else prove '..UptoSaid'. A law counts once. -/
mutual
def uptoBulk {H : Type} : DataW H → Nat
  | .lit (.string bytes) => bytes.length + 1
  | .lit _ => 1
  | .nil => 1
  | .ptr d => uptoBulk d + 1
  | .slice elems spare => uptoBulkAll elems + uptoBulkAll spare + 1
  | .agg parts => uptoBulkAll parts + 1
  | .iface _ d => uptoBulk d + 1
  | .map entries => uptoBulkEntries entries + 1
  | .held _ => 1
def uptoBulkAll {H : Type} : List (DataW H) → Nat
  | [] => 0
  | d :: r => uptoBulk d + uptoBulkAll r
def uptoBulkEntries {H : Type} : List (Lit × DataW H) → Nat
  | [] => 0
  | x :: r => uptoBulkEntry x + uptoBulkEntries r
def uptoBulkEntry {H : Type} : Lit × DataW H → Nat
  | (.string bytes, d) => bytes.length + uptoBulk d + 1
  | (_, d) => uptoBulk d + 1
 end
def uptoSmall : (H : Type) → List (DataW H) → Bool := fun _ ds => decide (uptoBulkAll ds ≤ 1048576)
def OpenSpec.upto (s : _root_.Go.ChangeSpec) : _root_.Go.OpenSpec := { _root_.Go.OpenSpec.ofChange s with cond := some uptoSmall }

/-- 'chargeparklaw26.DaysMatchesReference', WHERE WHAT IT READS IS OF BULK AT MOST 1048576: true; the input reads as it did. -/
def daysMatchesReferenceUptoRow : OpenClaim := { program := "ytnbfjdfmpadndaa", sum := "a4f25164cff11df8027aa4915e9d56d9a1556ad98fa30904f7e155ae2b492a78", func := "chargepark/chargeparklaw26.DaysMatchesReference", spec := "daysMatchesReference", unfollowed := true, recurses := true, apart := false, narrowed := true }
def DaysMatchesReferenceUptoSaid : Prop := daysMatchesReferenceUptoRow.holds Try.pinned (OpenSpec.upto daysMatchesReferenceSpec)

/-- 'chargeparklaw26.DaysOffsets', WHERE WHAT IT READS IS OF BULK AT MOST 1048576: true; the input reads as it did. -/
def daysOffsetsUptoRow : OpenClaim := { program := "ytnbfjdfmpadndaa", sum := "a4f25164cff11df8027aa4915e9d56d9a1556ad98fa30904f7e155ae2b492a78", func := "chargepark/chargeparklaw26.DaysOffsets", spec := "daysOffsets", unfollowed := true, recurses := true, apart := false, narrowed := true }
def DaysOffsetsUptoSaid : Prop := daysOffsetsUptoRow.holds Try.pinned (OpenSpec.upto daysOffsetsSpec)

/-- 'chargeparklaw26.DaysCalm', WHERE WHAT IT READS IS OF BULK AT MOST 1048576: true; the input reads as it did. -/
def daysCalmUptoRow : OpenClaim := { program := "ytnbfjdfmpadndaa", sum := "a4f25164cff11df8027aa4915e9d56d9a1556ad98fa30904f7e155ae2b492a78", func := "chargepark/chargeparklaw26.DaysCalm", spec := "daysCalm", unfollowed := true, recurses := true, apart := false, narrowed := true }
def DaysCalmUptoSaid : Prop := daysCalmUptoRow.holds Try.pinned (OpenSpec.upto daysCalmSpec)

/-- 'chargeparklaw26.DaysChanges', WHERE WHAT IT READS IS OF BULK AT MOST 1048576: true; the input reads as it did. -/
def daysChangesUptoRow : OpenClaim := { program := "ytnbfjdfmpadndaa", sum := "a4f25164cff11df8027aa4915e9d56d9a1556ad98fa30904f7e155ae2b492a78", func := "chargepark/chargeparklaw26.DaysChanges", spec := "daysChanges", unfollowed := true, recurses := true, apart := false, narrowed := true }
def DaysChangesUptoSaid : Prop := daysChangesUptoRow.holds Try.pinned (OpenSpec.upto daysChangesSpec)

/-- 'chargeparklaw26.DaysWeeks', WHERE WHAT IT READS IS OF BULK AT MOST 1048576: true; the input reads as it did. -/
def daysWeeksUptoRow : OpenClaim := { program := "ytnbfjdfmpadndaa", sum := "a4f25164cff11df8027aa4915e9d56d9a1556ad98fa30904f7e155ae2b492a78", func := "chargepark/chargeparklaw26.DaysWeeks", spec := "daysWeeks", unfollowed := true, recurses := true, apart := false, narrowed := true }
def DaysWeeksUptoSaid : Prop := daysWeeksUptoRow.holds Try.pinned (OpenSpec.upto daysWeeksSpec)

/-- 'chargeparklaw26.DaysHolidays', WHERE WHAT IT READS IS OF BULK AT MOST 1048576: true; the input reads as it did. -/
def daysHolidaysUptoRow : OpenClaim := { program := "ytnbfjdfmpadndaa", sum := "a4f25164cff11df8027aa4915e9d56d9a1556ad98fa30904f7e155ae2b492a78", func := "chargepark/chargeparklaw26.DaysHolidays", spec := "daysHolidays", unfollowed := true, recurses := true, apart := false, narrowed := true }
def DaysHolidaysUptoSaid : Prop := daysHolidaysUptoRow.holds Try.pinned (OpenSpec.upto daysHolidaysSpec)

/-- 'chargeparklaw26.DaysMoved', WHERE WHAT IT READS IS OF BULK AT MOST 1048576: true; the input reads as it did. -/
def daysMovedUptoRow : OpenClaim := { program := "ytnbfjdfmpadndaa", sum := "a4f25164cff11df8027aa4915e9d56d9a1556ad98fa30904f7e155ae2b492a78", func := "chargepark/chargeparklaw26.DaysMoved", spec := "daysMoved", unfollowed := true, recurses := true, apart := false, narrowed := true }
def DaysMovedUptoSaid : Prop := daysMovedUptoRow.holds Try.pinned (OpenSpec.upto daysMovedSpec)

/-- 'chargeparklaw07.CableSafe', WHERE WHAT IT READS IS OF BULK AT MOST 1048576: true; the input reads as it did. -/
def cableSafeUptoRow : OpenClaim := { program := "ytnbfjdfmpadndaa", sum := "a4f25164cff11df8027aa4915e9d56d9a1556ad98fa30904f7e155ae2b492a78", func := "chargepark/chargeparklaw07.CableSafe", spec := "cableSafe", unfollowed := true, recurses := true, apart := false, narrowed := true }
def CableSafeUptoSaid : Prop := cableSafeUptoRow.holds Try.pinned (OpenSpec.upto cableSafeSpec)

/-- 'chargeparklaw07.CableTight', WHERE WHAT IT READS IS OF BULK AT MOST 1048576: true; the input reads as it did. -/
def cableTightUptoRow : OpenClaim := { program := "ytnbfjdfmpadndaa", sum := "a4f25164cff11df8027aa4915e9d56d9a1556ad98fa30904f7e155ae2b492a78", func := "chargepark/chargeparklaw07.CableTight", spec := "cableTight", unfollowed := true, recurses := true, apart := false, narrowed := true }
def CableTightUptoSaid : Prop := cableTightUptoRow.holds Try.pinned (OpenSpec.upto cableTightSpec)

/-- 'chargeparklaw07.CableWarmer', WHERE WHAT IT READS IS OF BULK AT MOST 1048576: true; the input reads as it did. -/
def cableWarmerUptoRow : OpenClaim := { program := "ytnbfjdfmpadndaa", sum := "a4f25164cff11df8027aa4915e9d56d9a1556ad98fa30904f7e155ae2b492a78", func := "chargepark/chargeparklaw07.CableWarmer", spec := "cableWarmer", unfollowed := true, recurses := true, apart := false, narrowed := true }
def CableWarmerUptoSaid : Prop := cableWarmerUptoRow.holds Try.pinned (OpenSpec.upto cableWarmerSpec)

/-- 'chargeparklaw07.CableRests', WHERE WHAT IT READS IS OF BULK AT MOST 1048576: true; the input reads as it did. -/
def cableRestsUptoRow : OpenClaim := { program := "ytnbfjdfmpadndaa", sum := "a4f25164cff11df8027aa4915e9d56d9a1556ad98fa30904f7e155ae2b492a78", func := "chargepark/chargeparklaw07.CableRests", spec := "cableRests", unfollowed := true, recurses := true, apart := false, narrowed := true }
def CableRestsUptoSaid : Prop := cableRestsUptoRow.holds Try.pinned (OpenSpec.upto cableRestsSpec)

/-- 'chargeparklaw07.CableMargins', WHERE WHAT IT READS IS OF BULK AT MOST 1048576: true; the input reads as it did. -/
def cableMarginsUptoRow : OpenClaim := { program := "ytnbfjdfmpadndaa", sum := "a4f25164cff11df8027aa4915e9d56d9a1556ad98fa30904f7e155ae2b492a78", func := "chargepark/chargeparklaw07.CableMargins", spec := "cableMargins", unfollowed := true, recurses := true, apart := false, narrowed := true }
def CableMarginsUptoSaid : Prop := cableMarginsUptoRow.holds Try.pinned (OpenSpec.upto cableMarginsSpec)

end Rows
end Go.Proofs.Ytnbfjdfmpadndaa
