/-
  No cell of these rows narrows 'for every input' (looked for: loops, veiled, ifaces, maps, wideKeys, modest, calm, conditions, laid).
  DERIVED. THE GIVEN ROWS OF THIS SEAT. 19 by the template 'for every input the law returns true; each argument reads behind the call as it read before'; 0 by the template 'total and deterministic' (their statements: YtlhmhcjpdpakkaaTotals.lean).
  GIVEN WITH THE SEED: the statements are not yours to turn. If you find one false, say at which input.
  Laid BY PROGRAM, IN A SANDBOX (cutbox-rows.mjs): the forced cells as the released guide's own fill.sh prints them over the translation cc9e7e2552deb0ac… (all of the seat's roots in one cut). By AI agents, Wed Nov 11 2026. No macro, syntax, notation, axiom, sorry.
-/
import Derived.Test.YtlhmhcjpdpakkaaChecked
import GoSem.Claim
import GoSem.ClaimJoined
import GoSem.ClaimMapViews
import Derived.JoinedTies
import Derived.KernelRfl
namespace Go.Proofs.Ytlhmhcjpdpakkaa
/- THE CELL 'sum', in the pinned program and in every row, IS THE sha256 OF THE DUMP (.gsa) THAT YtlhmhcjpdpakkaaProg.lean LOADS. Nothing in Lean hashes anything: it is a label: what it is worth is what the hold of that sum in a sandbox is worth. -/
noncomputable def Try.pinned : Pinned := { name := "ytlhmhcjpdpakkaa", sum := "cc9e7e2552deb0acaa325afc1cce3f09d7b942693db9aba633451d2d4272a356", checked := Try.checked }
namespace Rows
def none {H : Type} : Left H := { results := [], args := [] }

/-- 'datumlaw05.SpanTight': WHATEVER THE INPUT: true; the input reads as it did. -/
def spanTightSpec : ChangeSpec := { name := "spanTight", fn := fun _ => fun
  | [d1, d2, d3, d4] => { results := [.lit (.bool true)], args := [d1, d2, d3, d4] }
  | _ => none }
def spanTightRow : OpenClaim := { program := "ytlhmhcjpdpakkaa", sum := "cc9e7e2552deb0acaa325afc1cce3f09d7b942693db9aba633451d2d4272a356", func := "datum/datumlaw05.SpanTight", spec := "spanTight", unfollowed := true, recurses := true, apart := false }
def SpanTightSaid : Prop := spanTightRow.holds Try.pinned (OpenSpec.ofChange spanTightSpec)

/-- ITS FALSE NEIGHBOUR: 'it returns false'. Refute it at one input. -/
def spanTightWrong : ChangeSpec := { name := "spanTight", fn := fun _ => fun
  | [d1, d2, d3, d4] => { results := [.lit (.bool false)], args := [d1, d2, d3, d4] }
  | _ => none }
def SpanTightWrongFalsely : Prop := spanTightRow.holds Try.pinned (OpenSpec.ofChange spanTightWrong)

/-- 'datumlaw05.SpanTells': WHATEVER THE INPUT: true; the input reads as it did. -/
def spanTellsSpec : ChangeSpec := { name := "spanTells", fn := fun _ => fun
  | [d1, d2, d3] => { results := [.lit (.bool true)], args := [d1, d2, d3] }
  | _ => none }
def spanTellsRow : OpenClaim := { program := "ytlhmhcjpdpakkaa", sum := "cc9e7e2552deb0acaa325afc1cce3f09d7b942693db9aba633451d2d4272a356", func := "datum/datumlaw05.SpanTells", spec := "spanTells", unfollowed := true, recurses := true, apart := false }
def SpanTellsSaid : Prop := spanTellsRow.holds Try.pinned (OpenSpec.ofChange spanTellsSpec)

/-- ITS FALSE NEIGHBOUR: 'it returns false'. Refute it at one input. -/
def spanTellsWrong : ChangeSpec := { name := "spanTells", fn := fun _ => fun
  | [d1, d2, d3] => { results := [.lit (.bool false)], args := [d1, d2, d3] }
  | _ => none }
def SpanTellsWrongFalsely : Prop := spanTellsRow.holds Try.pinned (OpenSpec.ofChange spanTellsWrong)

/-- 'datumlaw06.RatioMakes': WHATEVER THE INPUT: true; the input reads as it did. -/
def ratioMakesSpec : ChangeSpec := { name := "ratioMakes", fn := fun _ => fun
  | [d1, d2, d3] => { results := [.lit (.bool true)], args := [d1, d2, d3] }
  | _ => none }
def ratioMakesRow : OpenClaim := { program := "ytlhmhcjpdpakkaa", sum := "cc9e7e2552deb0acaa325afc1cce3f09d7b942693db9aba633451d2d4272a356", func := "datum/datumlaw06.RatioMakes", spec := "ratioMakes", inPlace := ["math/bits.Sub64", "math/bits.Add64"], unfollowed := true, recurses := true, named := ["math/bits.divideError", "math/bits.overflowError"], apart := false }
def RatioMakesSaid : Prop := ratioMakesRow.holds Try.pinned (OpenSpec.ofChange ratioMakesSpec)

/-- ITS FALSE NEIGHBOUR: 'it returns false'. Refute it at one input. -/
def ratioMakesWrong : ChangeSpec := { name := "ratioMakes", fn := fun _ => fun
  | [d1, d2, d3] => { results := [.lit (.bool false)], args := [d1, d2, d3] }
  | _ => none }
def RatioMakesWrongFalsely : Prop := ratioMakesRow.holds Try.pinned (OpenSpec.ofChange ratioMakesWrong)

/-- 'datumlaw06.RatioSpreads': WHATEVER THE INPUT: true; the input reads as it did. -/
def ratioSpreadsSpec : ChangeSpec := { name := "ratioSpreads", fn := fun _ => fun
  | [d] => { results := [.lit (.bool true)], args := [d] }
  | _ => none }
def ratioSpreadsRow : OpenClaim := { program := "ytlhmhcjpdpakkaa", sum := "cc9e7e2552deb0acaa325afc1cce3f09d7b942693db9aba633451d2d4272a356", func := "datum/datumlaw06.RatioSpreads", spec := "ratioSpreads", inPlace := ["math/bits.Sub64", "math/bits.Add64"], unfollowed := true, recurses := true, named := ["math/bits.divideError", "math/bits.overflowError"], apart := false }
def RatioSpreadsSaid : Prop := ratioSpreadsRow.holds Try.pinned (OpenSpec.ofChange ratioSpreadsSpec)

/-- ITS FALSE NEIGHBOUR: 'it returns false'. Refute it at one input. -/
def ratioSpreadsWrong : ChangeSpec := { name := "ratioSpreads", fn := fun _ => fun
  | [d] => { results := [.lit (.bool false)], args := [d] }
  | _ => none }
def RatioSpreadsWrongFalsely : Prop := ratioSpreadsRow.holds Try.pinned (OpenSpec.ofChange ratioSpreadsWrong)

/-- 'datumlaw06.RatioOrder': WHATEVER THE INPUT: true; the input reads as it did. -/
def ratioOrderSpec : ChangeSpec := { name := "ratioOrder", fn := fun _ => fun
  | [d] => { results := [.lit (.bool true)], args := [d] }
  | _ => none }
def ratioOrderRow : OpenClaim := { program := "ytlhmhcjpdpakkaa", sum := "cc9e7e2552deb0acaa325afc1cce3f09d7b942693db9aba633451d2d4272a356", func := "datum/datumlaw06.RatioOrder", spec := "ratioOrder", inPlace := ["math/bits.Sub64", "math/bits.Add64"], unfollowed := true, recurses := true, named := ["math/bits.divideError", "math/bits.overflowError"], apart := false }
def RatioOrderSaid : Prop := ratioOrderRow.holds Try.pinned (OpenSpec.ofChange ratioOrderSpec)

/-- ITS FALSE NEIGHBOUR: 'it returns false'. Refute it at one input. -/
def ratioOrderWrong : ChangeSpec := { name := "ratioOrder", fn := fun _ => fun
  | [d] => { results := [.lit (.bool false)], args := [d] }
  | _ => none }
def RatioOrderWrongFalsely : Prop := ratioOrderRow.holds Try.pinned (OpenSpec.ofChange ratioOrderWrong)

/-- 'datumlaw05.SpanHolds': WHATEVER THE INPUT: true; the input reads as it did. -/
def spanHoldsSpec : ChangeSpec := { name := "spanHolds", fn := fun _ => fun
  | [d1, d2, d3, d4, d5, d6] => { results := [.lit (.bool true)], args := [d1, d2, d3, d4, d5, d6] }
  | _ => none }
def spanHoldsRow : OpenClaim := { program := "ytlhmhcjpdpakkaa", sum := "cc9e7e2552deb0acaa325afc1cce3f09d7b942693db9aba633451d2d4272a356", func := "datum/datumlaw05.SpanHolds", spec := "spanHolds", inPlace := ["math/bits.Sub64", "math/bits.Add64"], unfollowed := true, recurses := true, named := ["math/bits.divideError", "math/bits.overflowError"], apart := false }
def SpanHoldsSaid : Prop := spanHoldsRow.holds Try.pinned (OpenSpec.ofChange spanHoldsSpec)

/-- ITS FALSE NEIGHBOUR: 'it returns false'. Refute it at one input. -/
def spanHoldsWrong : ChangeSpec := { name := "spanHolds", fn := fun _ => fun
  | [d1, d2, d3, d4, d5, d6] => { results := [.lit (.bool false)], args := [d1, d2, d3, d4, d5, d6] }
  | _ => none }
def SpanHoldsWrongFalsely : Prop := spanHoldsRow.holds Try.pinned (OpenSpec.ofChange spanHoldsWrong)

/-- 'datumlaw05.SpanTimes': WHATEVER THE INPUT: true; the input reads as it did. -/
def spanTimesSpec : ChangeSpec := { name := "spanTimes", fn := fun _ => fun
  | [d1, d2] => { results := [.lit (.bool true)], args := [d1, d2] }
  | _ => none }
def spanTimesRow : OpenClaim := { program := "ytlhmhcjpdpakkaa", sum := "cc9e7e2552deb0acaa325afc1cce3f09d7b942693db9aba633451d2d4272a356", func := "datum/datumlaw05.SpanTimes", spec := "spanTimes", inPlace := ["math/bits.Sub64", "math/bits.Add64"], unfollowed := true, recurses := true, named := ["math/bits.divideError", "math/bits.overflowError"], apart := false }
def SpanTimesSaid : Prop := spanTimesRow.holds Try.pinned (OpenSpec.ofChange spanTimesSpec)

/-- ITS FALSE NEIGHBOUR: 'it returns false'. Refute it at one input. -/
def spanTimesWrong : ChangeSpec := { name := "spanTimes", fn := fun _ => fun
  | [d1, d2] => { results := [.lit (.bool false)], args := [d1, d2] }
  | _ => none }
def SpanTimesWrongFalsely : Prop := spanTimesRow.holds Try.pinned (OpenSpec.ofChange spanTimesWrong)

/-- 'datumlaw17.LimitDraws': WHATEVER THE INPUT: true; the input reads as it did. -/
def limitDrawsSpec : ChangeSpec := { name := "limitDraws", fn := fun _ => fun
  | [d1, d2] => { results := [.lit (.bool true)], args := [d1, d2] }
  | _ => none }
def limitDrawsRow : OpenClaim := { program := "ytlhmhcjpdpakkaa", sum := "cc9e7e2552deb0acaa325afc1cce3f09d7b942693db9aba633451d2d4272a356", func := "datum/datumlaw17.LimitDraws", spec := "limitDraws", inPlace := ["math/bits.Add64", "math/bits.Sub64"], unfollowed := true, recurses := true, named := ["math/bits.divideError", "math/bits.overflowError"], apart := false }
def LimitDrawsSaid : Prop := limitDrawsRow.holds Try.pinned (OpenSpec.ofChange limitDrawsSpec)

/-- ITS FALSE NEIGHBOUR: 'it returns false'. Refute it at one input. -/
def limitDrawsWrong : ChangeSpec := { name := "limitDraws", fn := fun _ => fun
  | [d1, d2] => { results := [.lit (.bool false)], args := [d1, d2] }
  | _ => none }
def LimitDrawsWrongFalsely : Prop := limitDrawsRow.holds Try.pinned (OpenSpec.ofChange limitDrawsWrong)

/-- 'datumlaw17.LimitSure': WHATEVER THE INPUT: true; the input reads as it did. -/
def limitSureSpec : ChangeSpec := { name := "limitSure", fn := fun _ => fun
  | [d1, d2, d3, d4, d5] => { results := [.lit (.bool true)], args := [d1, d2, d3, d4, d5] }
  | _ => none }
def limitSureRow : OpenClaim := { program := "ytlhmhcjpdpakkaa", sum := "cc9e7e2552deb0acaa325afc1cce3f09d7b942693db9aba633451d2d4272a356", func := "datum/datumlaw17.LimitSure", spec := "limitSure", inPlace := ["math/bits.Add64", "math/bits.Sub64"], unfollowed := true, recurses := true, named := ["math/bits.divideError", "math/bits.overflowError"], apart := false }
def LimitSureSaid : Prop := limitSureRow.holds Try.pinned (OpenSpec.ofChange limitSureSpec)

/-- ITS FALSE NEIGHBOUR: 'it returns false'. Refute it at one input. -/
def limitSureWrong : ChangeSpec := { name := "limitSure", fn := fun _ => fun
  | [d1, d2, d3, d4, d5] => { results := [.lit (.bool false)], args := [d1, d2, d3, d4, d5] }
  | _ => none }
def LimitSureWrongFalsely : Prop := limitSureRow.holds Try.pinned (OpenSpec.ofChange limitSureWrong)

/-- 'datumlaw17.LimitNarrow': WHATEVER THE INPUT: true; the input reads as it did. -/
def limitNarrowSpec : ChangeSpec := { name := "limitNarrow", fn := fun _ => fun
  | [d1, d2, d3, d4, d5] => { results := [.lit (.bool true)], args := [d1, d2, d3, d4, d5] }
  | _ => none }
def limitNarrowRow : OpenClaim := { program := "ytlhmhcjpdpakkaa", sum := "cc9e7e2552deb0acaa325afc1cce3f09d7b942693db9aba633451d2d4272a356", func := "datum/datumlaw17.LimitNarrow", spec := "limitNarrow", inPlace := ["math/bits.Add64", "math/bits.Sub64"], unfollowed := true, recurses := true, named := ["math/bits.divideError", "math/bits.overflowError"], apart := false }
def LimitNarrowSaid : Prop := limitNarrowRow.holds Try.pinned (OpenSpec.ofChange limitNarrowSpec)

/-- ITS FALSE NEIGHBOUR: 'it returns false'. Refute it at one input. -/
def limitNarrowWrong : ChangeSpec := { name := "limitNarrow", fn := fun _ => fun
  | [d1, d2, d3, d4, d5] => { results := [.lit (.bool false)], args := [d1, d2, d3, d4, d5] }
  | _ => none }
def LimitNarrowWrongFalsely : Prop := limitNarrowRow.holds Try.pinned (OpenSpec.ofChange limitNarrowWrong)

/-- 'datumlaw06.RatioEncloses': WHATEVER THE INPUT: true; the input reads as it did. -/
def ratioEnclosesSpec : ChangeSpec := { name := "ratioEncloses", fn := fun _ => fun
  | [d1, d2, d3] => { results := [.lit (.bool true)], args := [d1, d2, d3] }
  | _ => none }
def ratioEnclosesRow : OpenClaim := { program := "ytlhmhcjpdpakkaa", sum := "cc9e7e2552deb0acaa325afc1cce3f09d7b942693db9aba633451d2d4272a356", func := "datum/datumlaw06.RatioEncloses", spec := "ratioEncloses", inPlace := ["math/bits.Sub64", "math/bits.Add64"], unfollowed := true, recurses := true, named := ["math/bits.divideError", "math/bits.overflowError"], apart := false }
def RatioEnclosesSaid : Prop := ratioEnclosesRow.holds Try.pinned (OpenSpec.ofChange ratioEnclosesSpec)

/-- ITS FALSE NEIGHBOUR: 'it returns false'. Refute it at one input. -/
def ratioEnclosesWrong : ChangeSpec := { name := "ratioEncloses", fn := fun _ => fun
  | [d1, d2, d3] => { results := [.lit (.bool false)], args := [d1, d2, d3] }
  | _ => none }
def RatioEnclosesWrongFalsely : Prop := ratioEnclosesRow.holds Try.pinned (OpenSpec.ofChange ratioEnclosesWrong)

/-- 'datumlaw05.SpanInside': WHATEVER THE INPUT: true; the input reads as it did. -/
def spanInsideSpec : ChangeSpec := { name := "spanInside", fn := fun _ => fun
  | [d1, d2, d3, d4, d5, d6] => { results := [.lit (.bool true)], args := [d1, d2, d3, d4, d5, d6] }
  | _ => none }
def spanInsideRow : OpenClaim := { program := "ytlhmhcjpdpakkaa", sum := "cc9e7e2552deb0acaa325afc1cce3f09d7b942693db9aba633451d2d4272a356", func := "datum/datumlaw05.SpanInside", spec := "spanInside", inPlace := ["math/bits.Sub64", "math/bits.Add64"], unfollowed := true, recurses := true, named := ["math/bits.divideError", "math/bits.overflowError"], apart := false }
def SpanInsideSaid : Prop := spanInsideRow.holds Try.pinned (OpenSpec.ofChange spanInsideSpec)

/-- ITS FALSE NEIGHBOUR: 'it returns false'. Refute it at one input. -/
def spanInsideWrong : ChangeSpec := { name := "spanInside", fn := fun _ => fun
  | [d1, d2, d3, d4, d5, d6] => { results := [.lit (.bool false)], args := [d1, d2, d3, d4, d5, d6] }
  | _ => none }
def SpanInsideWrongFalsely : Prop := spanInsideRow.holds Try.pinned (OpenSpec.ofChange spanInsideWrong)

/-- 'datumlaw06.RatioDoes': WHATEVER THE INPUT: true; the input reads as it did. -/
def ratioDoesSpec : ChangeSpec := { name := "ratioDoes", fn := fun _ => fun
  | [d1, d2, d3] => { results := [.lit (.bool true)], args := [d1, d2, d3] }
  | _ => none }
def ratioDoesRow : OpenClaim := { program := "ytlhmhcjpdpakkaa", sum := "cc9e7e2552deb0acaa325afc1cce3f09d7b942693db9aba633451d2d4272a356", func := "datum/datumlaw06.RatioDoes", spec := "ratioDoes", inPlace := ["math/bits.Sub64", "math/bits.Add64"], unfollowed := true, recurses := true, named := ["math/bits.divideError", "math/bits.overflowError"], apart := false }
def RatioDoesSaid : Prop := ratioDoesRow.holds Try.pinned (OpenSpec.ofChange ratioDoesSpec)

/-- ITS FALSE NEIGHBOUR: 'it returns false'. Refute it at one input. -/
def ratioDoesWrong : ChangeSpec := { name := "ratioDoes", fn := fun _ => fun
  | [d1, d2, d3] => { results := [.lit (.bool false)], args := [d1, d2, d3] }
  | _ => none }
def RatioDoesWrongFalsely : Prop := ratioDoesRow.holds Try.pinned (OpenSpec.ofChange ratioDoesWrong)

/-- 'datumlaw19.EwmaNarrow': WHATEVER THE INPUT: true; the input reads as it did. -/
def ewmaNarrowSpec : ChangeSpec := { name := "ewmaNarrow", fn := fun _ => fun
  | [d1, d2, d3, d4] => { results := [.lit (.bool true)], args := [d1, d2, d3, d4] }
  | _ => none }
def ewmaNarrowRow : OpenClaim := { program := "ytlhmhcjpdpakkaa", sum := "cc9e7e2552deb0acaa325afc1cce3f09d7b942693db9aba633451d2d4272a356", func := "datum/datumlaw19.EwmaNarrow", spec := "ewmaNarrow", inPlace := ["math/bits.Sub64", "math/bits.Add64"], unfollowed := true, recurses := true, named := ["math/bits.divideError", "math/bits.overflowError"], apart := false }
def EwmaNarrowSaid : Prop := ewmaNarrowRow.holds Try.pinned (OpenSpec.ofChange ewmaNarrowSpec)

/-- ITS FALSE NEIGHBOUR: 'it returns false'. Refute it at one input. -/
def ewmaNarrowWrong : ChangeSpec := { name := "ewmaNarrow", fn := fun _ => fun
  | [d1, d2, d3, d4] => { results := [.lit (.bool false)], args := [d1, d2, d3, d4] }
  | _ => none }
def EwmaNarrowWrongFalsely : Prop := ewmaNarrowRow.holds Try.pinned (OpenSpec.ofChange ewmaNarrowWrong)

/-- 'datumlaw17.LimitJudges': WHATEVER THE INPUT: true; the input reads as it did. -/
def limitJudgesSpec : ChangeSpec := { name := "limitJudges", fn := fun _ => fun
  | [d1, d2, d3] => { results := [.lit (.bool true)], args := [d1, d2, d3] }
  | _ => none }
def limitJudgesRow : OpenClaim := { program := "ytlhmhcjpdpakkaa", sum := "cc9e7e2552deb0acaa325afc1cce3f09d7b942693db9aba633451d2d4272a356", func := "datum/datumlaw17.LimitJudges", spec := "limitJudges", inPlace := ["math/bits.Sub64", "math/bits.Add64"], unfollowed := true, recurses := true, named := ["math/bits.divideError", "math/bits.overflowError"], apart := false }
def LimitJudgesSaid : Prop := limitJudgesRow.holds Try.pinned (OpenSpec.ofChange limitJudgesSpec)

/-- ITS FALSE NEIGHBOUR: 'it returns false'. Refute it at one input. -/
def limitJudgesWrong : ChangeSpec := { name := "limitJudges", fn := fun _ => fun
  | [d1, d2, d3] => { results := [.lit (.bool false)], args := [d1, d2, d3] }
  | _ => none }
def LimitJudgesWrongFalsely : Prop := limitJudgesRow.holds Try.pinned (OpenSpec.ofChange limitJudgesWrong)

/-- 'datumlaw19.EwmaReaches': WHATEVER THE INPUT: true; the input reads as it did. -/
def ewmaReachesSpec : ChangeSpec := { name := "ewmaReaches", fn := fun _ => fun
  | [d] => { results := [.lit (.bool true)], args := [d] }
  | _ => none }
def ewmaReachesRow : OpenClaim := { program := "ytlhmhcjpdpakkaa", sum := "cc9e7e2552deb0acaa325afc1cce3f09d7b942693db9aba633451d2d4272a356", func := "datum/datumlaw19.EwmaReaches", spec := "ewmaReaches", inPlace := ["math/bits.Add64", "math/bits.Sub64"], unfollowed := true, recurses := true, named := ["math/bits.divideError", "math/bits.overflowError"], apart := false }
def EwmaReachesSaid : Prop := ewmaReachesRow.holds Try.pinned (OpenSpec.ofChange ewmaReachesSpec)

/-- ITS FALSE NEIGHBOUR: 'it returns false'. Refute it at one input. -/
def ewmaReachesWrong : ChangeSpec := { name := "ewmaReaches", fn := fun _ => fun
  | [d] => { results := [.lit (.bool false)], args := [d] }
  | _ => none }
def EwmaReachesWrongFalsely : Prop := ewmaReachesRow.holds Try.pinned (OpenSpec.ofChange ewmaReachesWrong)

/-- 'datumlaw19.EwmaHolds': WHATEVER THE INPUT: true; the input reads as it did. -/
def ewmaHoldsSpec : ChangeSpec := { name := "ewmaHolds", fn := fun _ => fun
  | [d1, d2, d3, d4] => { results := [.lit (.bool true)], args := [d1, d2, d3, d4] }
  | _ => none }
def ewmaHoldsRow : OpenClaim := { program := "ytlhmhcjpdpakkaa", sum := "cc9e7e2552deb0acaa325afc1cce3f09d7b942693db9aba633451d2d4272a356", func := "datum/datumlaw19.EwmaHolds", spec := "ewmaHolds", inPlace := ["math/bits.Sub64", "math/bits.Add64"], unfollowed := true, recurses := true, named := ["math/bits.divideError", "math/bits.overflowError"], apart := false }
def EwmaHoldsSaid : Prop := ewmaHoldsRow.holds Try.pinned (OpenSpec.ofChange ewmaHoldsSpec)

/-- ITS FALSE NEIGHBOUR: 'it returns false'. Refute it at one input. -/
def ewmaHoldsWrong : ChangeSpec := { name := "ewmaHolds", fn := fun _ => fun
  | [d1, d2, d3, d4] => { results := [.lit (.bool false)], args := [d1, d2, d3, d4] }
  | _ => none }
def EwmaHoldsWrongFalsely : Prop := ewmaHoldsRow.holds Try.pinned (OpenSpec.ofChange ewmaHoldsWrong)

/-- 'datumlaw19.EwmaTurns': WHATEVER THE INPUT: true; the input reads as it did. -/
def ewmaTurnsSpec : ChangeSpec := { name := "ewmaTurns", fn := fun _ => fun
  | [d1, d2, d3, d4] => { results := [.lit (.bool true)], args := [d1, d2, d3, d4] }
  | _ => none }
def ewmaTurnsRow : OpenClaim := { program := "ytlhmhcjpdpakkaa", sum := "cc9e7e2552deb0acaa325afc1cce3f09d7b942693db9aba633451d2d4272a356", func := "datum/datumlaw19.EwmaTurns", spec := "ewmaTurns", inPlace := ["math/bits.Sub64", "math/bits.Add64"], unfollowed := true, recurses := true, named := ["math/bits.divideError", "math/bits.overflowError"], apart := false }
def EwmaTurnsSaid : Prop := ewmaTurnsRow.holds Try.pinned (OpenSpec.ofChange ewmaTurnsSpec)

/-- ITS FALSE NEIGHBOUR: 'it returns false'. Refute it at one input. -/
def ewmaTurnsWrong : ChangeSpec := { name := "ewmaTurns", fn := fun _ => fun
  | [d1, d2, d3, d4] => { results := [.lit (.bool false)], args := [d1, d2, d3, d4] }
  | _ => none }
def EwmaTurnsWrongFalsely : Prop := ewmaTurnsRow.holds Try.pinned (OpenSpec.ofChange ewmaTurnsWrong)

/-- 'datumlaw17.LimitMasks': WHATEVER THE INPUT: true; the input reads as it did. -/
def limitMasksSpec : ChangeSpec := { name := "limitMasks", fn := fun _ => fun
  | [d1, d2, d3, d4, d5, d6] => { results := [.lit (.bool true)], args := [d1, d2, d3, d4, d5, d6] }
  | _ => none }
def limitMasksRow : OpenClaim := { program := "ytlhmhcjpdpakkaa", sum := "cc9e7e2552deb0acaa325afc1cce3f09d7b942693db9aba633451d2d4272a356", func := "datum/datumlaw17.LimitMasks", spec := "limitMasks", inPlace := ["math/bits.Sub64", "math/bits.Add64"], unfollowed := true, recurses := true, named := ["math/bits.divideError", "math/bits.overflowError"], apart := false }
def LimitMasksSaid : Prop := limitMasksRow.holds Try.pinned (OpenSpec.ofChange limitMasksSpec)

/-- ITS FALSE NEIGHBOUR: 'it returns false'. Refute it at one input. -/
def limitMasksWrong : ChangeSpec := { name := "limitMasks", fn := fun _ => fun
  | [d1, d2, d3, d4, d5, d6] => { results := [.lit (.bool false)], args := [d1, d2, d3, d4, d5, d6] }
  | _ => none }
def LimitMasksWrongFalsely : Prop := limitMasksRow.holds Try.pinned (OpenSpec.ofChange limitMasksWrong)

/- THE SECOND FORM. 'bulk': how many values and letters a reading holds, each counted each time it is reached (what is shared counts as often as it is met; a slice's spare places count too). A statement '..UptoSaid' is the law's where the arguments, and the package variables that the reading takes, are together of bulk at most 1048576: NARROWER than '..Said'. Prove '..Said' where nothing that the law and all that it calls make is longer than what came in: it says more and counts as full. Else prove '..UptoSaid'. A law counts once. -/
mutual
def uptoBulk {H : Type} : DataW H → Nat
  | .lit (.string bytes) => bytes.length + 1
  | .lit _ => 1
  | .nil => 1
  | .ptr d => uptoBulk d + 1
  | .slice elems spare => uptoBulkAll elems + uptoBulkAll spare + 1
  | .agg parts => uptoBulkAll parts + 1
  | .iface _ d => uptoBulk d + 1
  | .map entries => uptoBulkEntries entries + 1
  | .held _ => 1
def uptoBulkAll {H : Type} : List (DataW H) → Nat
  | [] => 0
  | d :: r => uptoBulk d + uptoBulkAll r
def uptoBulkEntries {H : Type} : List (Lit × DataW H) → Nat
  | [] => 0
  | x :: r => uptoBulkEntry x + uptoBulkEntries r
def uptoBulkEntry {H : Type} : Lit × DataW H → Nat
  | (.string bytes, d) => bytes.length + uptoBulk d + 1
  | (_, d) => uptoBulk d + 1
 end
def uptoSmall : (H : Type) → List (DataW H) → Bool := fun _ ds => decide (uptoBulkAll ds ≤ 1048576)
def OpenSpec.upto (s : _root_.Go.ChangeSpec) : _root_.Go.OpenSpec := { _root_.Go.OpenSpec.ofChange s with cond := some uptoSmall }

/-- 'datumlaw05.SpanTight', WHERE WHAT IT READS IS OF BULK AT MOST 1048576: true; the input reads as it did. -/
def spanTightUptoRow : OpenClaim := { program := "ytlhmhcjpdpakkaa", sum := "cc9e7e2552deb0acaa325afc1cce3f09d7b942693db9aba633451d2d4272a356", func := "datum/datumlaw05.SpanTight", spec := "spanTight", unfollowed := true, recurses := true, apart := false, narrowed := true }
def SpanTightUptoSaid : Prop := spanTightUptoRow.holds Try.pinned (OpenSpec.upto spanTightSpec)

/-- 'datumlaw05.SpanTells', WHERE WHAT IT READS IS OF BULK AT MOST 1048576: true; the input reads as it did. -/
def spanTellsUptoRow : OpenClaim := { program := "ytlhmhcjpdpakkaa", sum := "cc9e7e2552deb0acaa325afc1cce3f09d7b942693db9aba633451d2d4272a356", func := "datum/datumlaw05.SpanTells", spec := "spanTells", unfollowed := true, recurses := true, apart := false, narrowed := true }
def SpanTellsUptoSaid : Prop := spanTellsUptoRow.holds Try.pinned (OpenSpec.upto spanTellsSpec)

/-- 'datumlaw06.RatioMakes', WHERE WHAT IT READS IS OF BULK AT MOST 1048576: true; the input reads as it did. -/
def ratioMakesUptoRow : OpenClaim := { program := "ytlhmhcjpdpakkaa", sum := "cc9e7e2552deb0acaa325afc1cce3f09d7b942693db9aba633451d2d4272a356", func := "datum/datumlaw06.RatioMakes", spec := "ratioMakes", inPlace := ["math/bits.Sub64", "math/bits.Add64"], unfollowed := true, recurses := true, named := ["math/bits.divideError", "math/bits.overflowError"], apart := false, narrowed := true }
def RatioMakesUptoSaid : Prop := ratioMakesUptoRow.holds Try.pinned (OpenSpec.upto ratioMakesSpec)

/-- 'datumlaw06.RatioSpreads', WHERE WHAT IT READS IS OF BULK AT MOST 1048576: true; the input reads as it did. -/
def ratioSpreadsUptoRow : OpenClaim := { program := "ytlhmhcjpdpakkaa", sum := "cc9e7e2552deb0acaa325afc1cce3f09d7b942693db9aba633451d2d4272a356", func := "datum/datumlaw06.RatioSpreads", spec := "ratioSpreads", inPlace := ["math/bits.Sub64", "math/bits.Add64"], unfollowed := true, recurses := true, named := ["math/bits.divideError", "math/bits.overflowError"], apart := false, narrowed := true }
def RatioSpreadsUptoSaid : Prop := ratioSpreadsUptoRow.holds Try.pinned (OpenSpec.upto ratioSpreadsSpec)

/-- 'datumlaw06.RatioOrder', WHERE WHAT IT READS IS OF BULK AT MOST 1048576: true; the input reads as it did. -/
def ratioOrderUptoRow : OpenClaim := { program := "ytlhmhcjpdpakkaa", sum := "cc9e7e2552deb0acaa325afc1cce3f09d7b942693db9aba633451d2d4272a356", func := "datum/datumlaw06.RatioOrder", spec := "ratioOrder", inPlace := ["math/bits.Sub64", "math/bits.Add64"], unfollowed := true, recurses := true, named := ["math/bits.divideError", "math/bits.overflowError"], apart := false, narrowed := true }
def RatioOrderUptoSaid : Prop := ratioOrderUptoRow.holds Try.pinned (OpenSpec.upto ratioOrderSpec)

/-- 'datumlaw05.SpanHolds', WHERE WHAT IT READS IS OF BULK AT MOST 1048576: true; the input reads as it did. -/
def spanHoldsUptoRow : OpenClaim := { program := "ytlhmhcjpdpakkaa", sum := "cc9e7e2552deb0acaa325afc1cce3f09d7b942693db9aba633451d2d4272a356", func := "datum/datumlaw05.SpanHolds", spec := "spanHolds", inPlace := ["math/bits.Sub64", "math/bits.Add64"], unfollowed := true, recurses := true, named := ["math/bits.divideError", "math/bits.overflowError"], apart := false, narrowed := true }
def SpanHoldsUptoSaid : Prop := spanHoldsUptoRow.holds Try.pinned (OpenSpec.upto spanHoldsSpec)

/-- 'datumlaw05.SpanTimes', WHERE WHAT IT READS IS OF BULK AT MOST 1048576: true; the input reads as it did. -/
def spanTimesUptoRow : OpenClaim := { program := "ytlhmhcjpdpakkaa", sum := "cc9e7e2552deb0acaa325afc1cce3f09d7b942693db9aba633451d2d4272a356", func := "datum/datumlaw05.SpanTimes", spec := "spanTimes", inPlace := ["math/bits.Sub64", "math/bits.Add64"], unfollowed := true, recurses := true, named := ["math/bits.divideError", "math/bits.overflowError"], apart := false, narrowed := true }
def SpanTimesUptoSaid : Prop := spanTimesUptoRow.holds Try.pinned (OpenSpec.upto spanTimesSpec)

/-- 'datumlaw17.LimitDraws', WHERE WHAT IT READS IS OF BULK AT MOST 1048576: true; the input reads as it did. -/
def limitDrawsUptoRow : OpenClaim := { program := "ytlhmhcjpdpakkaa", sum := "cc9e7e2552deb0acaa325afc1cce3f09d7b942693db9aba633451d2d4272a356", func := "datum/datumlaw17.LimitDraws", spec := "limitDraws", inPlace := ["math/bits.Add64", "math/bits.Sub64"], unfollowed := true, recurses := true, named := ["math/bits.divideError", "math/bits.overflowError"], apart := false, narrowed := true }
def LimitDrawsUptoSaid : Prop := limitDrawsUptoRow.holds Try.pinned (OpenSpec.upto limitDrawsSpec)

/-- 'datumlaw17.LimitSure', WHERE WHAT IT READS IS OF BULK AT MOST 1048576: true; the input reads as it did. -/
def limitSureUptoRow : OpenClaim := { program := "ytlhmhcjpdpakkaa", sum := "cc9e7e2552deb0acaa325afc1cce3f09d7b942693db9aba633451d2d4272a356", func := "datum/datumlaw17.LimitSure", spec := "limitSure", inPlace := ["math/bits.Add64", "math/bits.Sub64"], unfollowed := true, recurses := true, named := ["math/bits.divideError", "math/bits.overflowError"], apart := false, narrowed := true }
def LimitSureUptoSaid : Prop := limitSureUptoRow.holds Try.pinned (OpenSpec.upto limitSureSpec)

/-- 'datumlaw17.LimitNarrow', WHERE WHAT IT READS IS OF BULK AT MOST 1048576: true; the input reads as it did. -/
def limitNarrowUptoRow : OpenClaim := { program := "ytlhmhcjpdpakkaa", sum := "cc9e7e2552deb0acaa325afc1cce3f09d7b942693db9aba633451d2d4272a356", func := "datum/datumlaw17.LimitNarrow", spec := "limitNarrow", inPlace := ["math/bits.Add64", "math/bits.Sub64"], unfollowed := true, recurses := true, named := ["math/bits.divideError", "math/bits.overflowError"], apart := false, narrowed := true }
def LimitNarrowUptoSaid : Prop := limitNarrowUptoRow.holds Try.pinned (OpenSpec.upto limitNarrowSpec)

/-- 'datumlaw06.RatioEncloses', WHERE WHAT IT READS IS OF BULK AT MOST 1048576: true; the input reads as it did. -/
def ratioEnclosesUptoRow : OpenClaim := { program := "ytlhmhcjpdpakkaa", sum := "cc9e7e2552deb0acaa325afc1cce3f09d7b942693db9aba633451d2d4272a356", func := "datum/datumlaw06.RatioEncloses", spec := "ratioEncloses", inPlace := ["math/bits.Sub64", "math/bits.Add64"], unfollowed := true, recurses := true, named := ["math/bits.divideError", "math/bits.overflowError"], apart := false, narrowed := true }
def RatioEnclosesUptoSaid : Prop := ratioEnclosesUptoRow.holds Try.pinned (OpenSpec.upto ratioEnclosesSpec)

/-- 'datumlaw05.SpanInside', WHERE WHAT IT READS IS OF BULK AT MOST 1048576: true; the input reads as it did. -/
def spanInsideUptoRow : OpenClaim := { program := "ytlhmhcjpdpakkaa", sum := "cc9e7e2552deb0acaa325afc1cce3f09d7b942693db9aba633451d2d4272a356", func := "datum/datumlaw05.SpanInside", spec := "spanInside", inPlace := ["math/bits.Sub64", "math/bits.Add64"], unfollowed := true, recurses := true, named := ["math/bits.divideError", "math/bits.overflowError"], apart := false, narrowed := true }
def SpanInsideUptoSaid : Prop := spanInsideUptoRow.holds Try.pinned (OpenSpec.upto spanInsideSpec)

/-- 'datumlaw06.RatioDoes', WHERE WHAT IT READS IS OF BULK AT MOST 1048576: true; the input reads as it did. -/
def ratioDoesUptoRow : OpenClaim := { program := "ytlhmhcjpdpakkaa", sum := "cc9e7e2552deb0acaa325afc1cce3f09d7b942693db9aba633451d2d4272a356", func := "datum/datumlaw06.RatioDoes", spec := "ratioDoes", inPlace := ["math/bits.Sub64", "math/bits.Add64"], unfollowed := true, recurses := true, named := ["math/bits.divideError", "math/bits.overflowError"], apart := false, narrowed := true }
def RatioDoesUptoSaid : Prop := ratioDoesUptoRow.holds Try.pinned (OpenSpec.upto ratioDoesSpec)

/-- 'datumlaw19.EwmaNarrow', WHERE WHAT IT READS IS OF BULK AT MOST 1048576: true; the input reads as it did. -/
def ewmaNarrowUptoRow : OpenClaim := { program := "ytlhmhcjpdpakkaa", sum := "cc9e7e2552deb0acaa325afc1cce3f09d7b942693db9aba633451d2d4272a356", func := "datum/datumlaw19.EwmaNarrow", spec := "ewmaNarrow", inPlace := ["math/bits.Sub64", "math/bits.Add64"], unfollowed := true, recurses := true, named := ["math/bits.divideError", "math/bits.overflowError"], apart := false, narrowed := true }
def EwmaNarrowUptoSaid : Prop := ewmaNarrowUptoRow.holds Try.pinned (OpenSpec.upto ewmaNarrowSpec)

/-- 'datumlaw17.LimitJudges', WHERE WHAT IT READS IS OF BULK AT MOST 1048576: true; the input reads as it did. -/
def limitJudgesUptoRow : OpenClaim := { program := "ytlhmhcjpdpakkaa", sum := "cc9e7e2552deb0acaa325afc1cce3f09d7b942693db9aba633451d2d4272a356", func := "datum/datumlaw17.LimitJudges", spec := "limitJudges", inPlace := ["math/bits.Sub64", "math/bits.Add64"], unfollowed := true, recurses := true, named := ["math/bits.divideError", "math/bits.overflowError"], apart := false, narrowed := true }
def LimitJudgesUptoSaid : Prop := limitJudgesUptoRow.holds Try.pinned (OpenSpec.upto limitJudgesSpec)

/-- 'datumlaw19.EwmaReaches', WHERE WHAT IT READS IS OF BULK AT MOST 1048576: true; the input reads as it did. -/
def ewmaReachesUptoRow : OpenClaim := { program := "ytlhmhcjpdpakkaa", sum := "cc9e7e2552deb0acaa325afc1cce3f09d7b942693db9aba633451d2d4272a356", func := "datum/datumlaw19.EwmaReaches", spec := "ewmaReaches", inPlace := ["math/bits.Add64", "math/bits.Sub64"], unfollowed := true, recurses := true, named := ["math/bits.divideError", "math/bits.overflowError"], apart := false, narrowed := true }
def EwmaReachesUptoSaid : Prop := ewmaReachesUptoRow.holds Try.pinned (OpenSpec.upto ewmaReachesSpec)

/-- 'datumlaw19.EwmaHolds', WHERE WHAT IT READS IS OF BULK AT MOST 1048576: true; the input reads as it did. -/
def ewmaHoldsUptoRow : OpenClaim := { program := "ytlhmhcjpdpakkaa", sum := "cc9e7e2552deb0acaa325afc1cce3f09d7b942693db9aba633451d2d4272a356", func := "datum/datumlaw19.EwmaHolds", spec := "ewmaHolds", inPlace := ["math/bits.Sub64", "math/bits.Add64"], unfollowed := true, recurses := true, named := ["math/bits.divideError", "math/bits.overflowError"], apart := false, narrowed := true }
def EwmaHoldsUptoSaid : Prop := ewmaHoldsUptoRow.holds Try.pinned (OpenSpec.upto ewmaHoldsSpec)

/-- 'datumlaw19.EwmaTurns', WHERE WHAT IT READS IS OF BULK AT MOST 1048576: true; the input reads as it did. -/
def ewmaTurnsUptoRow : OpenClaim := { program := "ytlhmhcjpdpakkaa", sum := "cc9e7e2552deb0acaa325afc1cce3f09d7b942693db9aba633451d2d4272a356", func := "datum/datumlaw19.EwmaTurns", spec := "ewmaTurns", inPlace := ["math/bits.Sub64", "math/bits.Add64"], unfollowed := true, recurses := true, named := ["math/bits.divideError", "math/bits.overflowError"], apart := false, narrowed := true }
def EwmaTurnsUptoSaid : Prop := ewmaTurnsUptoRow.holds Try.pinned (OpenSpec.upto ewmaTurnsSpec)

/-- 'datumlaw17.LimitMasks', WHERE WHAT IT READS IS OF BULK AT MOST 1048576: true; the input reads as it did. -/
def limitMasksUptoRow : OpenClaim := { program := "ytlhmhcjpdpakkaa", sum := "cc9e7e2552deb0acaa325afc1cce3f09d7b942693db9aba633451d2d4272a356", func := "datum/datumlaw17.LimitMasks", spec := "limitMasks", inPlace := ["math/bits.Sub64", "math/bits.Add64"], unfollowed := true, recurses := true, named := ["math/bits.divideError", "math/bits.overflowError"], apart := false, narrowed := true }
def LimitMasksUptoSaid : Prop := limitMasksUptoRow.holds Try.pinned (OpenSpec.upto limitMasksSpec)

end Rows
end Go.Proofs.Ytlhmhcjpdpakkaa
