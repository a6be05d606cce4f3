/-
  NARROWER THAN 'FOR EVERY INPUT', by the rows' own cells (each row's printed sentence says how): NelsonExact: laid · NelsonSure: laid · NelsonNarrows: laid · NelsonTells: laid · NelsonTurns: laid.
  DERIVED. THE GIVEN ROWS OF THIS SEAT. 5 by the template 'for every input the law returns true; each argument reads behind the call as it read before'; 0 by the template 'total and deterministic' (their statements: YtmnpeneplobpdaaDoorTotals.lean).
  GIVEN WITH THE SEED: the statements are not yours to turn. If you find one false, say at which input.
  Laid BY PROGRAM, IN A SANDBOX (cutbox-rows.mjs): the forced cells as the released guide's own fill.sh prints them over the translation 8cc31504aeba2e70… (all of the seat's roots in one cut). By AI agents, Wed Nov 11 2026. No macro, syntax, notation, axiom, sorry.
-/
import Derived.Test.YtmnpeneplobpdaaDoorChecked
import GoSem.Claim
import GoSem.ClaimJoined
import GoSem.ClaimMapViews
import Derived.JoinedTies
import Derived.KernelRfl
namespace Go.Proofs.YtmnpeneplobpdaaDoor
/- THE CELL 'sum', in the pinned program and in every row, IS THE sha256 OF THE DUMP (.gsa) THAT YtmnpeneplobpdaaDoorProg.lean LOADS. Nothing in Lean hashes anything: it is a label: what it is worth is what the hold of that sum in a sandbox is worth. -/
noncomputable def Tryd.pinned : Pinned := { name := "ytmnpeneplobpdaadoor", sum := "8cc31504aeba2e70f4661513b02797e98b2a0bec1abf93723d1b5d41df25fd7c", checked := Tryd.checked }
namespace Rows
def none {H : Type} : Left H := { results := [], args := [] }

/- WHAT THE LISTED PACKAGE-LEVEL VARIABLES READ AS WHEN THE CALL BEGINS. Each datum BY PROGRAM (the guide's laid-datum.mjs) off the statement by which the dump's own 'gosem.cut.vars' lays the variable. In a bare row this is a premise. The card (YtmnpeneplobpdaaDoorCards.lean) ties it to the program's text. -/
def laid_math_bits_deBruijn32tab {H : Type} : DataW H := .agg [.lit (.int .u8 0), .lit (.int .u8 1), .lit (.int .u8 28), .lit (.int .u8 2), .lit (.int .u8 29), .lit (.int .u8 14), .lit (.int .u8 24), .lit (.int .u8 3), .lit (.int .u8 30), .lit (.int .u8 22), .lit (.int .u8 20), .lit (.int .u8 15), .lit (.int .u8 25), .lit (.int .u8 17), .lit (.int .u8 4), .lit (.int .u8 8), .lit (.int .u8 31), .lit (.int .u8 27), .lit (.int .u8 13), .lit (.int .u8 23), .lit (.int .u8 21), .lit (.int .u8 19), .lit (.int .u8 16), .lit (.int .u8 7), .lit (.int .u8 26), .lit (.int .u8 12), .lit (.int .u8 18), .lit (.int .u8 6), .lit (.int .u8 11), .lit (.int .u8 5), .lit (.int .u8 10), .lit (.int .u8 9)]
def laid_math_bits_deBruijn64tab {H : Type} : DataW H := .agg [.lit (.int .u8 0), .lit (.int .u8 1), .lit (.int .u8 56), .lit (.int .u8 2), .lit (.int .u8 57), .lit (.int .u8 49), .lit (.int .u8 28), .lit (.int .u8 3), .lit (.int .u8 61), .lit (.int .u8 58), .lit (.int .u8 42), .lit (.int .u8 50), .lit (.int .u8 38), .lit (.int .u8 29), .lit (.int .u8 17), .lit (.int .u8 4), .lit (.int .u8 62), .lit (.int .u8 47), .lit (.int .u8 59), .lit (.int .u8 36), .lit (.int .u8 45), .lit (.int .u8 43), .lit (.int .u8 51), .lit (.int .u8 22), .lit (.int .u8 53), .lit (.int .u8 39), .lit (.int .u8 33), .lit (.int .u8 30), .lit (.int .u8 24), .lit (.int .u8 18), .lit (.int .u8 12), .lit (.int .u8 5), .lit (.int .u8 63), .lit (.int .u8 55), .lit (.int .u8 48), .lit (.int .u8 27), .lit (.int .u8 60), .lit (.int .u8 41), .lit (.int .u8 37), .lit (.int .u8 16), .lit (.int .u8 46), .lit (.int .u8 35), .lit (.int .u8 44), .lit (.int .u8 21), .lit (.int .u8 52), .lit (.int .u8 32), .lit (.int .u8 23), .lit (.int .u8 11), .lit (.int .u8 54), .lit (.int .u8 26), .lit (.int .u8 40), .lit (.int .u8 15), .lit (.int .u8 34), .lit (.int .u8 20), .lit (.int .u8 31), .lit (.int .u8 10), .lit (.int .u8 25), .lit (.int .u8 14), .lit (.int .u8 19), .lit (.int .u8 9), .lit (.int .u8 13), .lit (.int .u8 8), .lit (.int .u8 7), .lit (.int .u8 6)]

/-- 'datumlaw14.NelsonExact': WHATEVER THE INPUT: true; the input reads as it did. -/
def nelsonExactSpec : ChangeSpec := { name := "nelsonExact", fn := fun _ => fun
  | [d] => { results := [.lit (.bool true)], args := [d] }
  | _ => none }
def nelsonExactRow : OpenClaim := { program := "ytmnpeneplobpdaadoor", sum := "8cc31504aeba2e70f4661513b02797e98b2a0bec1abf93723d1b5d41df25fd7c", func := "datum/datumlaw14.NelsonExact", spec := "nelsonExact", unfollowed := true, recurses := true, named := ["math/bits.deBruijn32tab", "math/bits.deBruijn64tab"], apart := false, laid := [("math/bits.deBruijn32tab", laid_math_bits_deBruijn32tab), ("math/bits.deBruijn64tab", laid_math_bits_deBruijn64tab)] }
def NelsonExactSaid : Prop := nelsonExactRow.holds Tryd.pinned (OpenSpec.ofChange nelsonExactSpec)

/-- ITS FALSE NEIGHBOUR: 'it returns false'. Refute it at one input. -/
def nelsonExactWrong : ChangeSpec := { name := "nelsonExact", fn := fun _ => fun
  | [d] => { results := [.lit (.bool false)], args := [d] }
  | _ => none }
def NelsonExactWrongFalsely : Prop := nelsonExactRow.holds Tryd.pinned (OpenSpec.ofChange nelsonExactWrong)

/-- 'datumlaw14.NelsonSure': WHATEVER THE INPUT: true; the input reads as it did. -/
def nelsonSureSpec : ChangeSpec := { name := "nelsonSure", fn := fun _ => fun
  | [d1, d2] => { results := [.lit (.bool true)], args := [d1, d2] }
  | _ => none }
def nelsonSureRow : OpenClaim := { program := "ytmnpeneplobpdaadoor", sum := "8cc31504aeba2e70f4661513b02797e98b2a0bec1abf93723d1b5d41df25fd7c", func := "datum/datumlaw14.NelsonSure", spec := "nelsonSure", unfollowed := true, recurses := true, named := ["math/bits.deBruijn32tab", "math/bits.deBruijn64tab"], apart := false, laid := [("math/bits.deBruijn32tab", laid_math_bits_deBruijn32tab), ("math/bits.deBruijn64tab", laid_math_bits_deBruijn64tab)] }
def NelsonSureSaid : Prop := nelsonSureRow.holds Tryd.pinned (OpenSpec.ofChange nelsonSureSpec)

/-- ITS FALSE NEIGHBOUR: 'it returns false'. Refute it at one input. -/
def nelsonSureWrong : ChangeSpec := { name := "nelsonSure", fn := fun _ => fun
  | [d1, d2] => { results := [.lit (.bool false)], args := [d1, d2] }
  | _ => none }
def NelsonSureWrongFalsely : Prop := nelsonSureRow.holds Tryd.pinned (OpenSpec.ofChange nelsonSureWrong)

/-- 'datumlaw14.NelsonNarrows': WHATEVER THE INPUT: true; the input reads as it did. -/
def nelsonNarrowsSpec : ChangeSpec := { name := "nelsonNarrows", fn := fun _ => fun
  | [d1, d2, d3] => { results := [.lit (.bool true)], args := [d1, d2, d3] }
  | _ => none }
def nelsonNarrowsRow : OpenClaim := { program := "ytmnpeneplobpdaadoor", sum := "8cc31504aeba2e70f4661513b02797e98b2a0bec1abf93723d1b5d41df25fd7c", func := "datum/datumlaw14.NelsonNarrows", spec := "nelsonNarrows", unfollowed := true, recurses := true, named := ["math/bits.deBruijn32tab", "math/bits.deBruijn64tab"], apart := false, laid := [("math/bits.deBruijn32tab", laid_math_bits_deBruijn32tab), ("math/bits.deBruijn64tab", laid_math_bits_deBruijn64tab)] }
def NelsonNarrowsSaid : Prop := nelsonNarrowsRow.holds Tryd.pinned (OpenSpec.ofChange nelsonNarrowsSpec)

/-- ITS FALSE NEIGHBOUR: 'it returns false'. Refute it at one input. -/
def nelsonNarrowsWrong : ChangeSpec := { name := "nelsonNarrows", fn := fun _ => fun
  | [d1, d2, d3] => { results := [.lit (.bool false)], args := [d1, d2, d3] }
  | _ => none }
def NelsonNarrowsWrongFalsely : Prop := nelsonNarrowsRow.holds Tryd.pinned (OpenSpec.ofChange nelsonNarrowsWrong)

/-- 'datumlaw14.NelsonTells': WHATEVER THE INPUT: true; the input reads as it did. -/
def nelsonTellsSpec : ChangeSpec := { name := "nelsonTells", fn := fun _ => fun
  | [d1, d2] => { results := [.lit (.bool true)], args := [d1, d2] }
  | _ => none }
def nelsonTellsRow : OpenClaim := { program := "ytmnpeneplobpdaadoor", sum := "8cc31504aeba2e70f4661513b02797e98b2a0bec1abf93723d1b5d41df25fd7c", func := "datum/datumlaw14.NelsonTells", spec := "nelsonTells", unfollowed := true, recurses := true, named := ["math/bits.deBruijn32tab", "math/bits.deBruijn64tab"], apart := false, laid := [("math/bits.deBruijn32tab", laid_math_bits_deBruijn32tab), ("math/bits.deBruijn64tab", laid_math_bits_deBruijn64tab)] }
def NelsonTellsSaid : Prop := nelsonTellsRow.holds Tryd.pinned (OpenSpec.ofChange nelsonTellsSpec)

/-- ITS FALSE NEIGHBOUR: 'it returns false'. Refute it at one input. -/
def nelsonTellsWrong : ChangeSpec := { name := "nelsonTells", fn := fun _ => fun
  | [d1, d2] => { results := [.lit (.bool false)], args := [d1, d2] }
  | _ => none }
def NelsonTellsWrongFalsely : Prop := nelsonTellsRow.holds Tryd.pinned (OpenSpec.ofChange nelsonTellsWrong)

/-- 'datumlaw14.NelsonTurns': WHATEVER THE INPUT: true; the input reads as it did. -/
def nelsonTurnsSpec : ChangeSpec := { name := "nelsonTurns", fn := fun _ => fun
  | [d1, d2] => { results := [.lit (.bool true)], args := [d1, d2] }
  | _ => none }
def nelsonTurnsRow : OpenClaim := { program := "ytmnpeneplobpdaadoor", sum := "8cc31504aeba2e70f4661513b02797e98b2a0bec1abf93723d1b5d41df25fd7c", func := "datum/datumlaw14.NelsonTurns", spec := "nelsonTurns", unfollowed := true, recurses := true, named := ["math/bits.deBruijn32tab", "math/bits.deBruijn64tab"], apart := false, laid := [("math/bits.deBruijn32tab", laid_math_bits_deBruijn32tab), ("math/bits.deBruijn64tab", laid_math_bits_deBruijn64tab)] }
def NelsonTurnsSaid : Prop := nelsonTurnsRow.holds Tryd.pinned (OpenSpec.ofChange nelsonTurnsSpec)

/-- ITS FALSE NEIGHBOUR: 'it returns false'. Refute it at one input. -/
def nelsonTurnsWrong : ChangeSpec := { name := "nelsonTurns", fn := fun _ => fun
  | [d1, d2] => { results := [.lit (.bool false)], args := [d1, d2] }
  | _ => none }
def NelsonTurnsWrongFalsely : Prop := nelsonTurnsRow.holds Tryd.pinned (OpenSpec.ofChange nelsonTurnsWrong)

/- THE SECOND FORM. 'bulk': how many values and letters a reading holds, each counted each time it is reached (what is shared counts as often as it is met; a slice's spare places count too). A statement '..UptoSaid' is the law's where the arguments, and the package variables that the reading takes, are together of bulk at most 1048576: NARROWER than '..Said'. Prove '..Said' where nothing that the law and all that it calls make is longer than what came in: it says more and counts as full. Else prove '..UptoSaid'. A law counts once. -/
mutual
def uptoBulk {H : Type} : DataW H → Nat
  | .lit (.string bytes) => bytes.length + 1
  | .lit _ => 1
  | .nil => 1
  | .ptr d => uptoBulk d + 1
  | .slice elems spare => uptoBulkAll elems + uptoBulkAll spare + 1
  | .agg parts => uptoBulkAll parts + 1
  | .iface _ d => uptoBulk d + 1
  | .map entries => uptoBulkEntries entries + 1
  | .held _ => 1
def uptoBulkAll {H : Type} : List (DataW H) → Nat
  | [] => 0
  | d :: r => uptoBulk d + uptoBulkAll r
def uptoBulkEntries {H : Type} : List (Lit × DataW H) → Nat
  | [] => 0
  | x :: r => uptoBulkEntry x + uptoBulkEntries r
def uptoBulkEntry {H : Type} : Lit × DataW H → Nat
  | (.string bytes, d) => bytes.length + uptoBulk d + 1
  | (_, d) => uptoBulk d + 1
 end
def uptoSmall : (H : Type) → List (DataW H) → Bool := fun _ ds => decide (uptoBulkAll ds ≤ 1048576)
def OpenSpec.upto (s : _root_.Go.ChangeSpec) : _root_.Go.OpenSpec := { _root_.Go.OpenSpec.ofChange s with cond := some uptoSmall }

/-- 'datumlaw14.NelsonExact', WHERE WHAT IT READS IS OF BULK AT MOST 1048576: true; the input reads as it did. -/
def nelsonExactUptoRow : OpenClaim := { program := "ytmnpeneplobpdaadoor", sum := "8cc31504aeba2e70f4661513b02797e98b2a0bec1abf93723d1b5d41df25fd7c", func := "datum/datumlaw14.NelsonExact", spec := "nelsonExact", unfollowed := true, recurses := true, named := ["math/bits.deBruijn32tab", "math/bits.deBruijn64tab"], apart := false, laid := [("math/bits.deBruijn32tab", laid_math_bits_deBruijn32tab), ("math/bits.deBruijn64tab", laid_math_bits_deBruijn64tab)], narrowed := true }
def NelsonExactUptoSaid : Prop := nelsonExactUptoRow.holds Tryd.pinned (OpenSpec.upto nelsonExactSpec)

/-- 'datumlaw14.NelsonSure', WHERE WHAT IT READS IS OF BULK AT MOST 1048576: true; the input reads as it did. -/
def nelsonSureUptoRow : OpenClaim := { program := "ytmnpeneplobpdaadoor", sum := "8cc31504aeba2e70f4661513b02797e98b2a0bec1abf93723d1b5d41df25fd7c", func := "datum/datumlaw14.NelsonSure", spec := "nelsonSure", unfollowed := true, recurses := true, named := ["math/bits.deBruijn32tab", "math/bits.deBruijn64tab"], apart := false, laid := [("math/bits.deBruijn32tab", laid_math_bits_deBruijn32tab), ("math/bits.deBruijn64tab", laid_math_bits_deBruijn64tab)], narrowed := true }
def NelsonSureUptoSaid : Prop := nelsonSureUptoRow.holds Tryd.pinned (OpenSpec.upto nelsonSureSpec)

/-- 'datumlaw14.NelsonNarrows', WHERE WHAT IT READS IS OF BULK AT MOST 1048576: true; the input reads as it did. -/
def nelsonNarrowsUptoRow : OpenClaim := { program := "ytmnpeneplobpdaadoor", sum := "8cc31504aeba2e70f4661513b02797e98b2a0bec1abf93723d1b5d41df25fd7c", func := "datum/datumlaw14.NelsonNarrows", spec := "nelsonNarrows", unfollowed := true, recurses := true, named := ["math/bits.deBruijn32tab", "math/bits.deBruijn64tab"], apart := false, laid := [("math/bits.deBruijn32tab", laid_math_bits_deBruijn32tab), ("math/bits.deBruijn64tab", laid_math_bits_deBruijn64tab)], narrowed := true }
def NelsonNarrowsUptoSaid : Prop := nelsonNarrowsUptoRow.holds Tryd.pinned (OpenSpec.upto nelsonNarrowsSpec)

/-- 'datumlaw14.NelsonTells', WHERE WHAT IT READS IS OF BULK AT MOST 1048576: true; the input reads as it did. -/
def nelsonTellsUptoRow : OpenClaim := { program := "ytmnpeneplobpdaadoor", sum := "8cc31504aeba2e70f4661513b02797e98b2a0bec1abf93723d1b5d41df25fd7c", func := "datum/datumlaw14.NelsonTells", spec := "nelsonTells", unfollowed := true, recurses := true, named := ["math/bits.deBruijn32tab", "math/bits.deBruijn64tab"], apart := false, laid := [("math/bits.deBruijn32tab", laid_math_bits_deBruijn32tab), ("math/bits.deBruijn64tab", laid_math_bits_deBruijn64tab)], narrowed := true }
def NelsonTellsUptoSaid : Prop := nelsonTellsUptoRow.holds Tryd.pinned (OpenSpec.upto nelsonTellsSpec)

/-- 'datumlaw14.NelsonTurns', WHERE WHAT IT READS IS OF BULK AT MOST 1048576: true; the input reads as it did. -/
def nelsonTurnsUptoRow : OpenClaim := { program := "ytmnpeneplobpdaadoor", sum := "8cc31504aeba2e70f4661513b02797e98b2a0bec1abf93723d1b5d41df25fd7c", func := "datum/datumlaw14.NelsonTurns", spec := "nelsonTurns", unfollowed := true, recurses := true, named := ["math/bits.deBruijn32tab", "math/bits.deBruijn64tab"], apart := false, laid := [("math/bits.deBruijn32tab", laid_math_bits_deBruijn32tab), ("math/bits.deBruijn64tab", laid_math_bits_deBruijn64tab)], narrowed := true }
def NelsonTurnsUptoSaid : Prop := nelsonTurnsUptoRow.holds Tryd.pinned (OpenSpec.upto nelsonTurnsSpec)

end Rows
end Go.Proofs.YtmnpeneplobpdaaDoor
