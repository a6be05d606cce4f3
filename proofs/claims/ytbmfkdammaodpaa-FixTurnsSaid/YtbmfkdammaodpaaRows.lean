/-
  No cell of these rows narrows 'for every input' (looked for: loops, veiled, ifaces, maps, wideKeys, modest, calm, conditions, laid).
  DERIVED. THE GIVEN ROWS OF THIS SEAT. 12 by the template 'for every input the law returns true; each argument reads behind the call as it read before'; 0 by the template 'total and deterministic' (their statements: YtbmfkdammaodpaaTotals.lean).
  GIVEN WITH THE SEED: the statements are not yours to turn. If you find one false, say at which input.
  Laid BY PROGRAM, IN A SANDBOX (cutbox-rows.mjs): the forced cells as the released guide's own fill.sh prints them over the translation 1c32b141e4f7f235… (all of the seat's roots in one cut). By AI agents, Wed Nov 11 2026. No macro, syntax, notation, axiom, sorry.
-/
import Derived.Test.YtbmfkdammaodpaaChecked
import GoSem.Claim
import GoSem.ClaimJoined
import GoSem.ClaimMapViews
import Derived.JoinedTies
import Derived.KernelRfl
namespace Go.Proofs.Ytbmfkdammaodpaa
/- THE CELL 'sum', in the pinned program and in every row, IS THE sha256 OF THE DUMP (.gsa) THAT YtbmfkdammaodpaaProg.lean LOADS. Nothing in Lean hashes anything: it is a label: what it is worth is what the hold of that sum in a sandbox is worth. -/
noncomputable def Try.pinned : Pinned := { name := "ytbmfkdammaodpaa", sum := "1c32b141e4f7f235fa7f524afac6c3d17103f098139e99ea7dd1fe94fb5a9118", checked := Try.checked }
namespace Rows
def none {H : Type} : Left H := { results := [], args := [] }

/-- 'datumlaw03.RootTells': WHATEVER THE INPUT: true; the input reads as it did. -/
def rootTellsSpec : ChangeSpec := { name := "rootTells", fn := fun _ => fun
  | [d] => { results := [.lit (.bool true)], args := [d] }
  | _ => none }
def rootTellsRow : OpenClaim := { program := "ytbmfkdammaodpaa", sum := "1c32b141e4f7f235fa7f524afac6c3d17103f098139e99ea7dd1fe94fb5a9118", func := "datum/datumlaw03.RootTells", spec := "rootTells", inPlace := ["math/bits.Add64"], unfollowed := true, recurses := true, apart := false }
def RootTellsSaid : Prop := rootTellsRow.holds Try.pinned (OpenSpec.ofChange rootTellsSpec)

/-- ITS FALSE NEIGHBOUR: 'it returns false'. Refute it at one input. -/
def rootTellsWrong : ChangeSpec := { name := "rootTells", fn := fun _ => fun
  | [d] => { results := [.lit (.bool false)], args := [d] }
  | _ => none }
def RootTellsWrongFalsely : Prop := rootTellsRow.holds Try.pinned (OpenSpec.ofChange rootTellsWrong)

/-- 'datumlaw03.RootFits': WHATEVER THE INPUT: true; the input reads as it did. -/
def rootFitsSpec : ChangeSpec := { name := "rootFits", fn := fun _ => fun
  | [d] => { results := [.lit (.bool true)], args := [d] }
  | _ => none }
def rootFitsRow : OpenClaim := { program := "ytbmfkdammaodpaa", sum := "1c32b141e4f7f235fa7f524afac6c3d17103f098139e99ea7dd1fe94fb5a9118", func := "datum/datumlaw03.RootFits", spec := "rootFits", inPlace := ["math/bits.Add64"], unfollowed := true, recurses := true, apart := false }
def RootFitsSaid : Prop := rootFitsRow.holds Try.pinned (OpenSpec.ofChange rootFitsSpec)

/-- ITS FALSE NEIGHBOUR: 'it returns false'. Refute it at one input. -/
def rootFitsWrong : ChangeSpec := { name := "rootFits", fn := fun _ => fun
  | [d] => { results := [.lit (.bool false)], args := [d] }
  | _ => none }
def RootFitsWrongFalsely : Prop := rootFitsRow.holds Try.pinned (OpenSpec.ofChange rootFitsWrong)

/-- 'datumlaw03.RootSquares': WHATEVER THE INPUT: true; the input reads as it did. -/
def rootSquaresSpec : ChangeSpec := { name := "rootSquares", fn := fun _ => fun
  | [d1, d2, d3] => { results := [.lit (.bool true)], args := [d1, d2, d3] }
  | _ => none }
def rootSquaresRow : OpenClaim := { program := "ytbmfkdammaodpaa", sum := "1c32b141e4f7f235fa7f524afac6c3d17103f098139e99ea7dd1fe94fb5a9118", func := "datum/datumlaw03.RootSquares", spec := "rootSquares", inPlace := ["math/bits.Add64", "math/bits.Sub64"], unfollowed := true, recurses := true, apart := false }
def RootSquaresSaid : Prop := rootSquaresRow.holds Try.pinned (OpenSpec.ofChange rootSquaresSpec)

/-- ITS FALSE NEIGHBOUR: 'it returns false'. Refute it at one input. -/
def rootSquaresWrong : ChangeSpec := { name := "rootSquares", fn := fun _ => fun
  | [d1, d2, d3] => { results := [.lit (.bool false)], args := [d1, d2, d3] }
  | _ => none }
def RootSquaresWrongFalsely : Prop := rootSquaresRow.holds Try.pinned (OpenSpec.ofChange rootSquaresWrong)

/-- 'datumlaw02.DivideTells': WHATEVER THE INPUT: true; the input reads as it did. -/
def divideTellsSpec : ChangeSpec := { name := "divideTells", fn := fun _ => fun
  | [d1, d2] => { results := [.lit (.bool true)], args := [d1, d2] }
  | _ => none }
def divideTellsRow : OpenClaim := { program := "ytbmfkdammaodpaa", sum := "1c32b141e4f7f235fa7f524afac6c3d17103f098139e99ea7dd1fe94fb5a9118", func := "datum/datumlaw02.DivideTells", spec := "divideTells", inPlace := ["math/bits.Sub64"], named := ["math/bits.divideError", "math/bits.overflowError"], apart := false }
def DivideTellsSaid : Prop := divideTellsRow.holds Try.pinned (OpenSpec.ofChange divideTellsSpec)

/-- ITS FALSE NEIGHBOUR: 'it returns false'. Refute it at one input. -/
def divideTellsWrong : ChangeSpec := { name := "divideTells", fn := fun _ => fun
  | [d1, d2] => { results := [.lit (.bool false)], args := [d1, d2] }
  | _ => none }
def DivideTellsWrongFalsely : Prop := divideTellsRow.holds Try.pinned (OpenSpec.ofChange divideTellsWrong)

/-- 'datumlaw02.DivideGcds': WHATEVER THE INPUT: true; the input reads as it did. -/
def divideGcdsSpec : ChangeSpec := { name := "divideGcds", fn := fun _ => fun
  | [d1, d2] => { results := [.lit (.bool true)], args := [d1, d2] }
  | _ => none }
def divideGcdsRow : OpenClaim := { program := "ytbmfkdammaodpaa", sum := "1c32b141e4f7f235fa7f524afac6c3d17103f098139e99ea7dd1fe94fb5a9118", func := "datum/datumlaw02.DivideGcds", spec := "divideGcds", inPlace := ["math/bits.Sub64"], unfollowed := true, recurses := true, named := ["math/bits.divideError", "math/bits.overflowError"], apart := false }
def DivideGcdsSaid : Prop := divideGcdsRow.holds Try.pinned (OpenSpec.ofChange divideGcdsSpec)

/-- ITS FALSE NEIGHBOUR: 'it returns false'. Refute it at one input. -/
def divideGcdsWrong : ChangeSpec := { name := "divideGcds", fn := fun _ => fun
  | [d1, d2] => { results := [.lit (.bool false)], args := [d1, d2] }
  | _ => none }
def DivideGcdsWrongFalsely : Prop := divideGcdsRow.holds Try.pinned (OpenSpec.ofChange divideGcdsWrong)

/-- 'datumlaw02.DivideBack': WHATEVER THE INPUT: true; the input reads as it did. -/
def divideBackSpec : ChangeSpec := { name := "divideBack", fn := fun _ => fun
  | [d1, d2] => { results := [.lit (.bool true)], args := [d1, d2] }
  | _ => none }
def divideBackRow : OpenClaim := { program := "ytbmfkdammaodpaa", sum := "1c32b141e4f7f235fa7f524afac6c3d17103f098139e99ea7dd1fe94fb5a9118", func := "datum/datumlaw02.DivideBack", spec := "divideBack", inPlace := ["math/bits.Sub64", "math/bits.Add64"], named := ["math/bits.divideError", "math/bits.overflowError"], apart := false }
def DivideBackSaid : Prop := divideBackRow.holds Try.pinned (OpenSpec.ofChange divideBackSpec)

/-- ITS FALSE NEIGHBOUR: 'it returns false'. Refute it at one input. -/
def divideBackWrong : ChangeSpec := { name := "divideBack", fn := fun _ => fun
  | [d1, d2] => { results := [.lit (.bool false)], args := [d1, d2] }
  | _ => none }
def DivideBackWrongFalsely : Prop := divideBackRow.holds Try.pinned (OpenSpec.ofChange divideBackWrong)

/-- 'datumlaw02.DivideCommon': WHATEVER THE INPUT: true; the input reads as it did. -/
def divideCommonSpec : ChangeSpec := { name := "divideCommon", fn := fun _ => fun
  | [d1, d2, d3] => { results := [.lit (.bool true)], args := [d1, d2, d3] }
  | _ => none }
def divideCommonRow : OpenClaim := { program := "ytbmfkdammaodpaa", sum := "1c32b141e4f7f235fa7f524afac6c3d17103f098139e99ea7dd1fe94fb5a9118", func := "datum/datumlaw02.DivideCommon", spec := "divideCommon", inPlace := ["math/bits.Sub64", "math/bits.Add64"], unfollowed := true, recurses := true, named := ["math/bits.divideError", "math/bits.overflowError"], apart := false }
def DivideCommonSaid : Prop := divideCommonRow.holds Try.pinned (OpenSpec.ofChange divideCommonSpec)

/-- ITS FALSE NEIGHBOUR: 'it returns false'. Refute it at one input. -/
def divideCommonWrong : ChangeSpec := { name := "divideCommon", fn := fun _ => fun
  | [d1, d2, d3] => { results := [.lit (.bool false)], args := [d1, d2, d3] }
  | _ => none }
def DivideCommonWrongFalsely : Prop := divideCommonRow.holds Try.pinned (OpenSpec.ofChange divideCommonWrong)

/-- 'datumlaw04.FixDivides': WHATEVER THE INPUT: true; the input reads as it did. -/
def fixDividesSpec : ChangeSpec := { name := "fixDivides", fn := fun _ => fun
  | [d1, d2, d3, d4] => { results := [.lit (.bool true)], args := [d1, d2, d3, d4] }
  | _ => none }
def fixDividesRow : OpenClaim := { program := "ytbmfkdammaodpaa", sum := "1c32b141e4f7f235fa7f524afac6c3d17103f098139e99ea7dd1fe94fb5a9118", func := "datum/datumlaw04.FixDivides", spec := "fixDivides", inPlace := ["math/bits.Sub64", "math/bits.Add64"], unfollowed := true, recurses := true, named := ["math/bits.divideError", "math/bits.overflowError"], apart := false }
def FixDividesSaid : Prop := fixDividesRow.holds Try.pinned (OpenSpec.ofChange fixDividesSpec)

/-- ITS FALSE NEIGHBOUR: 'it returns false'. Refute it at one input. -/
def fixDividesWrong : ChangeSpec := { name := "fixDivides", fn := fun _ => fun
  | [d1, d2, d3, d4] => { results := [.lit (.bool false)], args := [d1, d2, d3, d4] }
  | _ => none }
def FixDividesWrongFalsely : Prop := fixDividesRow.holds Try.pinned (OpenSpec.ofChange fixDividesWrong)

/-- 'datumlaw04.FixTurns': WHATEVER THE INPUT: true; the input reads as it did. -/
def fixTurnsSpec : ChangeSpec := { name := "fixTurns", fn := fun _ => fun
  | [d1, d2, d3] => { results := [.lit (.bool true)], args := [d1, d2, d3] }
  | _ => none }
def fixTurnsRow : OpenClaim := { program := "ytbmfkdammaodpaa", sum := "1c32b141e4f7f235fa7f524afac6c3d17103f098139e99ea7dd1fe94fb5a9118", func := "datum/datumlaw04.FixTurns", spec := "fixTurns", inPlace := ["math/bits.Sub64", "math/bits.Add64"], unfollowed := true, recurses := true, named := ["math/bits.divideError", "math/bits.overflowError"], apart := false }
def FixTurnsSaid : Prop := fixTurnsRow.holds Try.pinned (OpenSpec.ofChange fixTurnsSpec)

/-- ITS FALSE NEIGHBOUR: 'it returns false'. Refute it at one input. -/
def fixTurnsWrong : ChangeSpec := { name := "fixTurns", fn := fun _ => fun
  | [d1, d2, d3] => { results := [.lit (.bool false)], args := [d1, d2, d3] }
  | _ => none }
def FixTurnsWrongFalsely : Prop := fixTurnsRow.holds Try.pinned (OpenSpec.ofChange fixTurnsWrong)

/-- 'datumlaw04.FixRounds': WHATEVER THE INPUT: true; the input reads as it did. -/
def fixRoundsSpec : ChangeSpec := { name := "fixRounds", fn := fun _ => fun
  | [d1, d2, d3] => { results := [.lit (.bool true)], args := [d1, d2, d3] }
  | _ => none }
def fixRoundsRow : OpenClaim := { program := "ytbmfkdammaodpaa", sum := "1c32b141e4f7f235fa7f524afac6c3d17103f098139e99ea7dd1fe94fb5a9118", func := "datum/datumlaw04.FixRounds", spec := "fixRounds", inPlace := ["math/bits.Sub64", "math/bits.Add64"], unfollowed := true, recurses := true, named := ["math/bits.divideError", "math/bits.overflowError"], apart := false }
def FixRoundsSaid : Prop := fixRoundsRow.holds Try.pinned (OpenSpec.ofChange fixRoundsSpec)

/-- ITS FALSE NEIGHBOUR: 'it returns false'. Refute it at one input. -/
def fixRoundsWrong : ChangeSpec := { name := "fixRounds", fn := fun _ => fun
  | [d1, d2, d3] => { results := [.lit (.bool false)], args := [d1, d2, d3] }
  | _ => none }
def FixRoundsWrongFalsely : Prop := fixRoundsRow.holds Try.pinned (OpenSpec.ofChange fixRoundsWrong)

/-- 'datumlaw04.FixBack': WHATEVER THE INPUT: true; the input reads as it did. -/
def fixBackSpec : ChangeSpec := { name := "fixBack", fn := fun _ => fun
  | [d1, d2] => { results := [.lit (.bool true)], args := [d1, d2] }
  | _ => none }
def fixBackRow : OpenClaim := { program := "ytbmfkdammaodpaa", sum := "1c32b141e4f7f235fa7f524afac6c3d17103f098139e99ea7dd1fe94fb5a9118", func := "datum/datumlaw04.FixBack", spec := "fixBack", inPlace := ["math/bits.Sub64", "math/bits.Add64"], unfollowed := true, recurses := true, named := ["math/bits.divideError", "math/bits.overflowError"], apart := false }
def FixBackSaid : Prop := fixBackRow.holds Try.pinned (OpenSpec.ofChange fixBackSpec)

/-- ITS FALSE NEIGHBOUR: 'it returns false'. Refute it at one input. -/
def fixBackWrong : ChangeSpec := { name := "fixBack", fn := fun _ => fun
  | [d1, d2] => { results := [.lit (.bool false)], args := [d1, d2] }
  | _ => none }
def FixBackWrongFalsely : Prop := fixBackRow.holds Try.pinned (OpenSpec.ofChange fixBackWrong)

/-- 'datumlaw04.FixAdds': WHATEVER THE INPUT: true; the input reads as it did. -/
def fixAddsSpec : ChangeSpec := { name := "fixAdds", fn := fun _ => fun
  | [d1, d2] => { results := [.lit (.bool true)], args := [d1, d2] }
  | _ => none }
def fixAddsRow : OpenClaim := { program := "ytbmfkdammaodpaa", sum := "1c32b141e4f7f235fa7f524afac6c3d17103f098139e99ea7dd1fe94fb5a9118", func := "datum/datumlaw04.FixAdds", spec := "fixAdds", inPlace := ["math/bits.Sub64", "math/bits.Add64"], unfollowed := true, recurses := true, named := ["math/bits.divideError", "math/bits.overflowError"], apart := false }
def FixAddsSaid : Prop := fixAddsRow.holds Try.pinned (OpenSpec.ofChange fixAddsSpec)

/-- ITS FALSE NEIGHBOUR: 'it returns false'. Refute it at one input. -/
def fixAddsWrong : ChangeSpec := { name := "fixAdds", fn := fun _ => fun
  | [d1, d2] => { results := [.lit (.bool false)], args := [d1, d2] }
  | _ => none }
def FixAddsWrongFalsely : Prop := fixAddsRow.holds Try.pinned (OpenSpec.ofChange fixAddsWrong)

/- THE SECOND FORM. 'bulk': how many values and letters a reading holds, each counted each time it is reached (what is shared counts as often as it is met; a slice's spare places count too). A statement '..UptoSaid' is the law's where the arguments, and the package variables that the reading takes, are together of bulk at most 1048576: NARROWER than '..Said'. Prove '..Said' where nothing that the law and all that it calls make is longer than what came in: it says more and counts as full. Else prove '..UptoSaid'. A law counts once. -/
mutual
def uptoBulk {H : Type} : DataW H → Nat
  | .lit (.string bytes) => bytes.length + 1
  | .lit _ => 1
  | .nil => 1
  | .ptr d => uptoBulk d + 1
  | .slice elems spare => uptoBulkAll elems + uptoBulkAll spare + 1
  | .agg parts => uptoBulkAll parts + 1
  | .iface _ d => uptoBulk d + 1
  | .map entries => uptoBulkEntries entries + 1
  | .held _ => 1
def uptoBulkAll {H : Type} : List (DataW H) → Nat
  | [] => 0
  | d :: r => uptoBulk d + uptoBulkAll r
def uptoBulkEntries {H : Type} : List (Lit × DataW H) → Nat
  | [] => 0
  | x :: r => uptoBulkEntry x + uptoBulkEntries r
def uptoBulkEntry {H : Type} : Lit × DataW H → Nat
  | (.string bytes, d) => bytes.length + uptoBulk d + 1
  | (_, d) => uptoBulk d + 1
 end
def uptoSmall : (H : Type) → List (DataW H) → Bool := fun _ ds => decide (uptoBulkAll ds ≤ 1048576)
def OpenSpec.upto (s : _root_.Go.ChangeSpec) : _root_.Go.OpenSpec := { _root_.Go.OpenSpec.ofChange s with cond := some uptoSmall }

/-- 'datumlaw03.RootTells', WHERE WHAT IT READS IS OF BULK AT MOST 1048576: true; the input reads as it did. -/
def rootTellsUptoRow : OpenClaim := { program := "ytbmfkdammaodpaa", sum := "1c32b141e4f7f235fa7f524afac6c3d17103f098139e99ea7dd1fe94fb5a9118", func := "datum/datumlaw03.RootTells", spec := "rootTells", inPlace := ["math/bits.Add64"], unfollowed := true, recurses := true, apart := false, narrowed := true }
def RootTellsUptoSaid : Prop := rootTellsUptoRow.holds Try.pinned (OpenSpec.upto rootTellsSpec)

/-- 'datumlaw03.RootFits', WHERE WHAT IT READS IS OF BULK AT MOST 1048576: true; the input reads as it did. -/
def rootFitsUptoRow : OpenClaim := { program := "ytbmfkdammaodpaa", sum := "1c32b141e4f7f235fa7f524afac6c3d17103f098139e99ea7dd1fe94fb5a9118", func := "datum/datumlaw03.RootFits", spec := "rootFits", inPlace := ["math/bits.Add64"], unfollowed := true, recurses := true, apart := false, narrowed := true }
def RootFitsUptoSaid : Prop := rootFitsUptoRow.holds Try.pinned (OpenSpec.upto rootFitsSpec)

/-- 'datumlaw03.RootSquares', WHERE WHAT IT READS IS OF BULK AT MOST 1048576: true; the input reads as it did. -/
def rootSquaresUptoRow : OpenClaim := { program := "ytbmfkdammaodpaa", sum := "1c32b141e4f7f235fa7f524afac6c3d17103f098139e99ea7dd1fe94fb5a9118", func := "datum/datumlaw03.RootSquares", spec := "rootSquares", inPlace := ["math/bits.Add64", "math/bits.Sub64"], unfollowed := true, recurses := true, apart := false, narrowed := true }
def RootSquaresUptoSaid : Prop := rootSquaresUptoRow.holds Try.pinned (OpenSpec.upto rootSquaresSpec)

/-- 'datumlaw02.DivideTells', WHERE WHAT IT READS IS OF BULK AT MOST 1048576: true; the input reads as it did. -/
def divideTellsUptoRow : OpenClaim := { program := "ytbmfkdammaodpaa", sum := "1c32b141e4f7f235fa7f524afac6c3d17103f098139e99ea7dd1fe94fb5a9118", func := "datum/datumlaw02.DivideTells", spec := "divideTells", inPlace := ["math/bits.Sub64"], named := ["math/bits.divideError", "math/bits.overflowError"], apart := false, narrowed := true }
def DivideTellsUptoSaid : Prop := divideTellsUptoRow.holds Try.pinned (OpenSpec.upto divideTellsSpec)

/-- 'datumlaw02.DivideGcds', WHERE WHAT IT READS IS OF BULK AT MOST 1048576: true; the input reads as it did. -/
def divideGcdsUptoRow : OpenClaim := { program := "ytbmfkdammaodpaa", sum := "1c32b141e4f7f235fa7f524afac6c3d17103f098139e99ea7dd1fe94fb5a9118", func := "datum/datumlaw02.DivideGcds", spec := "divideGcds", inPlace := ["math/bits.Sub64"], unfollowed := true, recurses := true, named := ["math/bits.divideError", "math/bits.overflowError"], apart := false, narrowed := true }
def DivideGcdsUptoSaid : Prop := divideGcdsUptoRow.holds Try.pinned (OpenSpec.upto divideGcdsSpec)

/-- 'datumlaw02.DivideBack', WHERE WHAT IT READS IS OF BULK AT MOST 1048576: true; the input reads as it did. -/
def divideBackUptoRow : OpenClaim := { program := "ytbmfkdammaodpaa", sum := "1c32b141e4f7f235fa7f524afac6c3d17103f098139e99ea7dd1fe94fb5a9118", func := "datum/datumlaw02.DivideBack", spec := "divideBack", inPlace := ["math/bits.Sub64", "math/bits.Add64"], named := ["math/bits.divideError", "math/bits.overflowError"], apart := false, narrowed := true }
def DivideBackUptoSaid : Prop := divideBackUptoRow.holds Try.pinned (OpenSpec.upto divideBackSpec)

/-- 'datumlaw02.DivideCommon', WHERE WHAT IT READS IS OF BULK AT MOST 1048576: true; the input reads as it did. -/
def divideCommonUptoRow : OpenClaim := { program := "ytbmfkdammaodpaa", sum := "1c32b141e4f7f235fa7f524afac6c3d17103f098139e99ea7dd1fe94fb5a9118", func := "datum/datumlaw02.DivideCommon", spec := "divideCommon", inPlace := ["math/bits.Sub64", "math/bits.Add64"], unfollowed := true, recurses := true, named := ["math/bits.divideError", "math/bits.overflowError"], apart := false, narrowed := true }
def DivideCommonUptoSaid : Prop := divideCommonUptoRow.holds Try.pinned (OpenSpec.upto divideCommonSpec)

/-- 'datumlaw04.FixDivides', WHERE WHAT IT READS IS OF BULK AT MOST 1048576: true; the input reads as it did. -/
def fixDividesUptoRow : OpenClaim := { program := "ytbmfkdammaodpaa", sum := "1c32b141e4f7f235fa7f524afac6c3d17103f098139e99ea7dd1fe94fb5a9118", func := "datum/datumlaw04.FixDivides", spec := "fixDivides", inPlace := ["math/bits.Sub64", "math/bits.Add64"], unfollowed := true, recurses := true, named := ["math/bits.divideError", "math/bits.overflowError"], apart := false, narrowed := true }
def FixDividesUptoSaid : Prop := fixDividesUptoRow.holds Try.pinned (OpenSpec.upto fixDividesSpec)

/-- 'datumlaw04.FixTurns', WHERE WHAT IT READS IS OF BULK AT MOST 1048576: true; the input reads as it did. -/
def fixTurnsUptoRow : OpenClaim := { program := "ytbmfkdammaodpaa", sum := "1c32b141e4f7f235fa7f524afac6c3d17103f098139e99ea7dd1fe94fb5a9118", func := "datum/datumlaw04.FixTurns", spec := "fixTurns", inPlace := ["math/bits.Sub64", "math/bits.Add64"], unfollowed := true, recurses := true, named := ["math/bits.divideError", "math/bits.overflowError"], apart := false, narrowed := true }
def FixTurnsUptoSaid : Prop := fixTurnsUptoRow.holds Try.pinned (OpenSpec.upto fixTurnsSpec)

/-- 'datumlaw04.FixRounds', WHERE WHAT IT READS IS OF BULK AT MOST 1048576: true; the input reads as it did. -/
def fixRoundsUptoRow : OpenClaim := { program := "ytbmfkdammaodpaa", sum := "1c32b141e4f7f235fa7f524afac6c3d17103f098139e99ea7dd1fe94fb5a9118", func := "datum/datumlaw04.FixRounds", spec := "fixRounds", inPlace := ["math/bits.Sub64", "math/bits.Add64"], unfollowed := true, recurses := true, named := ["math/bits.divideError", "math/bits.overflowError"], apart := false, narrowed := true }
def FixRoundsUptoSaid : Prop := fixRoundsUptoRow.holds Try.pinned (OpenSpec.upto fixRoundsSpec)

/-- 'datumlaw04.FixBack', WHERE WHAT IT READS IS OF BULK AT MOST 1048576: true; the input reads as it did. -/
def fixBackUptoRow : OpenClaim := { program := "ytbmfkdammaodpaa", sum := "1c32b141e4f7f235fa7f524afac6c3d17103f098139e99ea7dd1fe94fb5a9118", func := "datum/datumlaw04.FixBack", spec := "fixBack", inPlace := ["math/bits.Sub64", "math/bits.Add64"], unfollowed := true, recurses := true, named := ["math/bits.divideError", "math/bits.overflowError"], apart := false, narrowed := true }
def FixBackUptoSaid : Prop := fixBackUptoRow.holds Try.pinned (OpenSpec.upto fixBackSpec)

/-- 'datumlaw04.FixAdds', WHERE WHAT IT READS IS OF BULK AT MOST 1048576: true; the input reads as it did. -/
def fixAddsUptoRow : OpenClaim := { program := "ytbmfkdammaodpaa", sum := "1c32b141e4f7f235fa7f524afac6c3d17103f098139e99ea7dd1fe94fb5a9118", func := "datum/datumlaw04.FixAdds", spec := "fixAdds", inPlace := ["math/bits.Sub64", "math/bits.Add64"], unfollowed := true, recurses := true, named := ["math/bits.divideError", "math/bits.overflowError"], apart := false, narrowed := true }
def FixAddsUptoSaid : Prop := fixAddsUptoRow.holds Try.pinned (OpenSpec.upto fixAddsSpec)

end Rows
end Go.Proofs.Ytbmfkdammaodpaa
