/-
  No cell of these rows narrows 'for every input' (looked for: loops, veiled, ifaces, maps, wideKeys, modest, calm, conditions, laid).
  DERIVED. THE GIVEN ROWS OF THIS SEAT. 8 by the template 'for every input the law returns true; each argument reads behind the call as it read before'; 0 by the template 'total and deterministic' (their statements: YtgnihomdpandfaaTotals.lean).
  GIVEN WITH THE SEED: the statements are not yours to turn. If you find one false, say at which input.
  Laid BY PROGRAM, IN A SANDBOX (cutbox-rows.mjs): the forced cells as the released guide's own fill.sh prints them over the translation 6536fe8459a96be4… (all of the seat's roots in one cut). By AI agents, Wed Nov 11 2026. No macro, syntax, notation, axiom, sorry.
-/
import Derived.Test.YtgnihomdpandfaaChecked
import GoSem.Claim
import GoSem.ClaimJoined
import GoSem.ClaimMapViews
import Derived.JoinedTies
import Derived.KernelRfl
namespace Go.Proofs.Ytgnihomdpandfaa
/- THE CELL 'sum', in the pinned program and in every row, IS THE sha256 OF THE DUMP (.gsa) THAT YtgnihomdpandfaaProg.lean LOADS. Nothing in Lean hashes anything: it is a label: what it is worth is what the hold of that sum in a sandbox is worth. -/
noncomputable def Try.pinned : Pinned := { name := "ytgnihomdpandfaa", sum := "6536fe8459a96be426a2a2c78f8b60c5bc693a9d1cda585ad8053026bf5cee52", checked := Try.checked }
namespace Rows
def none {H : Type} : Left H := { results := [], args := [] }

/-- 'datumlaw16.TallyMean': WHATEVER THE INPUT: true; the input reads as it did. -/
def tallyMeanSpec : ChangeSpec := { name := "tallyMean", fn := fun _ => fun
  | [d1, d2, d3, d4] => { results := [.lit (.bool true)], args := [d1, d2, d3, d4] }
  | _ => none }
def tallyMeanRow : OpenClaim := { program := "ytgnihomdpandfaa", sum := "6536fe8459a96be426a2a2c78f8b60c5bc693a9d1cda585ad8053026bf5cee52", func := "datum/datumlaw16.TallyMean", spec := "tallyMean", unfollowed := true, recurses := true, apart := false }
def TallyMeanSaid : Prop := tallyMeanRow.holds Try.pinned (OpenSpec.ofChange tallyMeanSpec)

/-- ITS FALSE NEIGHBOUR: 'it returns false'. Refute it at one input. -/
def tallyMeanWrong : ChangeSpec := { name := "tallyMean", fn := fun _ => fun
  | [d1, d2, d3, d4] => { results := [.lit (.bool false)], args := [d1, d2, d3, d4] }
  | _ => none }
def TallyMeanWrongFalsely : Prop := tallyMeanRow.holds Try.pinned (OpenSpec.ofChange tallyMeanWrong)

/-- 'datumlaw11.StatsSpread': WHATEVER THE INPUT: true; the input reads as it did. -/
def statsSpreadSpec : ChangeSpec := { name := "statsSpread", fn := fun _ => fun
  | [d] => { results := [.lit (.bool true)], args := [d] }
  | _ => none }
def statsSpreadRow : OpenClaim := { program := "ytgnihomdpandfaa", sum := "6536fe8459a96be426a2a2c78f8b60c5bc693a9d1cda585ad8053026bf5cee52", func := "datum/datumlaw11.StatsSpread", spec := "statsSpread", inPlace := ["math/bits.Add64", "math/bits.Sub64"], apart := false }
def StatsSpreadSaid : Prop := statsSpreadRow.holds Try.pinned (OpenSpec.ofChange statsSpreadSpec)

/-- ITS FALSE NEIGHBOUR: 'it returns false'. Refute it at one input. -/
def statsSpreadWrong : ChangeSpec := { name := "statsSpread", fn := fun _ => fun
  | [d] => { results := [.lit (.bool false)], args := [d] }
  | _ => none }
def StatsSpreadWrongFalsely : Prop := statsSpreadRow.holds Try.pinned (OpenSpec.ofChange statsSpreadWrong)

/-- 'datumlaw11.StatsShift': WHATEVER THE INPUT: true; the input reads as it did. -/
def statsShiftSpec : ChangeSpec := { name := "statsShift", fn := fun _ => fun
  | [d1, d2, d3] => { results := [.lit (.bool true)], args := [d1, d2, d3] }
  | _ => none }
def statsShiftRow : OpenClaim := { program := "ytgnihomdpandfaa", sum := "6536fe8459a96be426a2a2c78f8b60c5bc693a9d1cda585ad8053026bf5cee52", func := "datum/datumlaw11.StatsShift", spec := "statsShift", inPlace := ["math/bits.Add64", "math/bits.Sub64"], apart := false }
def StatsShiftSaid : Prop := statsShiftRow.holds Try.pinned (OpenSpec.ofChange statsShiftSpec)

/-- ITS FALSE NEIGHBOUR: 'it returns false'. Refute it at one input. -/
def statsShiftWrong : ChangeSpec := { name := "statsShift", fn := fun _ => fun
  | [d1, d2, d3] => { results := [.lit (.bool false)], args := [d1, d2, d3] }
  | _ => none }
def StatsShiftWrongFalsely : Prop := statsShiftRow.holds Try.pinned (OpenSpec.ofChange statsShiftWrong)

/-- 'datumlaw16.TallyAlike': WHATEVER THE INPUT: true; the input reads as it did. -/
def tallyAlikeSpec : ChangeSpec := { name := "tallyAlike", fn := fun _ => fun
  | [d1, d2, d3] => { results := [.lit (.bool true)], args := [d1, d2, d3] }
  | _ => none }
def tallyAlikeRow : OpenClaim := { program := "ytgnihomdpandfaa", sum := "6536fe8459a96be426a2a2c78f8b60c5bc693a9d1cda585ad8053026bf5cee52", func := "datum/datumlaw16.TallyAlike", spec := "tallyAlike", inPlace := ["math/bits.Add64"], unfollowed := true, recurses := true, apart := false }
def TallyAlikeSaid : Prop := tallyAlikeRow.holds Try.pinned (OpenSpec.ofChange tallyAlikeSpec)

/-- ITS FALSE NEIGHBOUR: 'it returns false'. Refute it at one input. -/
def tallyAlikeWrong : ChangeSpec := { name := "tallyAlike", fn := fun _ => fun
  | [d1, d2, d3] => { results := [.lit (.bool false)], args := [d1, d2, d3] }
  | _ => none }
def TallyAlikeWrongFalsely : Prop := tallyAlikeRow.holds Try.pinned (OpenSpec.ofChange tallyAlikeWrong)

/-- 'datumlaw11.StatsTell': WHATEVER THE INPUT: true; the input reads as it did. -/
def statsTellSpec : ChangeSpec := { name := "statsTell", fn := fun _ => fun
  | [d1, d2, d3] => { results := [.lit (.bool true)], args := [d1, d2, d3] }
  | _ => none }
def statsTellRow : OpenClaim := { program := "ytgnihomdpandfaa", sum := "6536fe8459a96be426a2a2c78f8b60c5bc693a9d1cda585ad8053026bf5cee52", func := "datum/datumlaw11.StatsTell", spec := "statsTell", inPlace := ["math/bits.Add64", "math/bits.Sub64"], apart := false }
def StatsTellSaid : Prop := statsTellRow.holds Try.pinned (OpenSpec.ofChange statsTellSpec)

/-- ITS FALSE NEIGHBOUR: 'it returns false'. Refute it at one input. -/
def statsTellWrong : ChangeSpec := { name := "statsTell", fn := fun _ => fun
  | [d1, d2, d3] => { results := [.lit (.bool false)], args := [d1, d2, d3] }
  | _ => none }
def StatsTellWrongFalsely : Prop := statsTellRow.holds Try.pinned (OpenSpec.ofChange statsTellWrong)

/-- 'datumlaw20.AbleStats': WHATEVER THE INPUT: true; the input reads as it did. -/
def ableStatsSpec : ChangeSpec := { name := "ableStats", fn := fun _ => fun
  | [d1, d2, d3, d4] => { results := [.lit (.bool true)], args := [d1, d2, d3, d4] }
  | _ => none }
def ableStatsRow : OpenClaim := { program := "ytgnihomdpandfaa", sum := "6536fe8459a96be426a2a2c78f8b60c5bc693a9d1cda585ad8053026bf5cee52", func := "datum/datumlaw20.AbleStats", spec := "ableStats", inPlace := ["math/bits.Add64", "math/bits.Sub64"], unfollowed := true, recurses := true, named := ["math/bits.divideError", "math/bits.overflowError"], apart := false }
def AbleStatsSaid : Prop := ableStatsRow.holds Try.pinned (OpenSpec.ofChange ableStatsSpec)

/-- ITS FALSE NEIGHBOUR: 'it returns false'. Refute it at one input. -/
def ableStatsWrong : ChangeSpec := { name := "ableStats", fn := fun _ => fun
  | [d1, d2, d3, d4] => { results := [.lit (.bool false)], args := [d1, d2, d3, d4] }
  | _ => none }
def AbleStatsWrongFalsely : Prop := ableStatsRow.holds Try.pinned (OpenSpec.ofChange ableStatsWrong)

/-- 'datumlaw20.AbleHolds': WHATEVER THE INPUT: true; the input reads as it did. -/
def ableHoldsSpec : ChangeSpec := { name := "ableHolds", fn := fun _ => fun
  | [d1, d2, d3, d4] => { results := [.lit (.bool true)], args := [d1, d2, d3, d4] }
  | _ => none }
def ableHoldsRow : OpenClaim := { program := "ytgnihomdpandfaa", sum := "6536fe8459a96be426a2a2c78f8b60c5bc693a9d1cda585ad8053026bf5cee52", func := "datum/datumlaw20.AbleHolds", spec := "ableHolds", inPlace := ["math/bits.Add64", "math/bits.Sub64"], unfollowed := true, recurses := true, named := ["math/bits.divideError", "math/bits.overflowError"], apart := false }
def AbleHoldsSaid : Prop := ableHoldsRow.holds Try.pinned (OpenSpec.ofChange ableHoldsSpec)

/-- ITS FALSE NEIGHBOUR: 'it returns false'. Refute it at one input. -/
def ableHoldsWrong : ChangeSpec := { name := "ableHolds", fn := fun _ => fun
  | [d1, d2, d3, d4] => { results := [.lit (.bool false)], args := [d1, d2, d3, d4] }
  | _ => none }
def AbleHoldsWrongFalsely : Prop := ableHoldsRow.holds Try.pinned (OpenSpec.ofChange ableHoldsWrong)

/-- 'datumlaw20.AbleShift': WHATEVER THE INPUT: true; the input reads as it did. -/
def ableShiftSpec : ChangeSpec := { name := "ableShift", fn := fun _ => fun
  | [d1, d2, d3, d4, d5] => { results := [.lit (.bool true)], args := [d1, d2, d3, d4, d5] }
  | _ => none }
def ableShiftRow : OpenClaim := { program := "ytgnihomdpandfaa", sum := "6536fe8459a96be426a2a2c78f8b60c5bc693a9d1cda585ad8053026bf5cee52", func := "datum/datumlaw20.AbleShift", spec := "ableShift", inPlace := ["math/bits.Add64", "math/bits.Sub64"], unfollowed := true, recurses := true, named := ["math/bits.divideError", "math/bits.overflowError"], apart := false }
def AbleShiftSaid : Prop := ableShiftRow.holds Try.pinned (OpenSpec.ofChange ableShiftSpec)

/-- ITS FALSE NEIGHBOUR: 'it returns false'. Refute it at one input. -/
def ableShiftWrong : ChangeSpec := { name := "ableShift", fn := fun _ => fun
  | [d1, d2, d3, d4, d5] => { results := [.lit (.bool false)], args := [d1, d2, d3, d4, d5] }
  | _ => none }
def AbleShiftWrongFalsely : Prop := ableShiftRow.holds Try.pinned (OpenSpec.ofChange ableShiftWrong)

/- THE SECOND FORM. 'bulk': how many values and letters a reading holds, each counted each time it is reached (what is shared counts as often as it is met; a slice's spare places count too). A statement '..UptoSaid' is the law's where the arguments, and the package variables that the reading takes, are together of bulk at most 1048576: NARROWER than '..Said'. Prove '..Said' where nothing that the law and all that it calls make is longer than what came in: it says more and counts as full. Else prove '..UptoSaid'. A law counts once. -/
mutual
def uptoBulk {H : Type} : DataW H → Nat
  | .lit (.string bytes) => bytes.length + 1
  | .lit _ => 1
  | .nil => 1
  | .ptr d => uptoBulk d + 1
  | .slice elems spare => uptoBulkAll elems + uptoBulkAll spare + 1
  | .agg parts => uptoBulkAll parts + 1
  | .iface _ d => uptoBulk d + 1
  | .map entries => uptoBulkEntries entries + 1
  | .held _ => 1
def uptoBulkAll {H : Type} : List (DataW H) → Nat
  | [] => 0
  | d :: r => uptoBulk d + uptoBulkAll r
def uptoBulkEntries {H : Type} : List (Lit × DataW H) → Nat
  | [] => 0
  | x :: r => uptoBulkEntry x + uptoBulkEntries r
def uptoBulkEntry {H : Type} : Lit × DataW H → Nat
  | (.string bytes, d) => bytes.length + uptoBulk d + 1
  | (_, d) => uptoBulk d + 1
 end
def uptoSmall : (H : Type) → List (DataW H) → Bool := fun _ ds => decide (uptoBulkAll ds ≤ 1048576)
def OpenSpec.upto (s : _root_.Go.ChangeSpec) : _root_.Go.OpenSpec := { _root_.Go.OpenSpec.ofChange s with cond := some uptoSmall }

/-- 'datumlaw16.TallyMean', WHERE WHAT IT READS IS OF BULK AT MOST 1048576: true; the input reads as it did. -/
def tallyMeanUptoRow : OpenClaim := { program := "ytgnihomdpandfaa", sum := "6536fe8459a96be426a2a2c78f8b60c5bc693a9d1cda585ad8053026bf5cee52", func := "datum/datumlaw16.TallyMean", spec := "tallyMean", unfollowed := true, recurses := true, apart := false, narrowed := true }
def TallyMeanUptoSaid : Prop := tallyMeanUptoRow.holds Try.pinned (OpenSpec.upto tallyMeanSpec)

/-- 'datumlaw11.StatsSpread', WHERE WHAT IT READS IS OF BULK AT MOST 1048576: true; the input reads as it did. -/
def statsSpreadUptoRow : OpenClaim := { program := "ytgnihomdpandfaa", sum := "6536fe8459a96be426a2a2c78f8b60c5bc693a9d1cda585ad8053026bf5cee52", func := "datum/datumlaw11.StatsSpread", spec := "statsSpread", inPlace := ["math/bits.Add64", "math/bits.Sub64"], apart := false, narrowed := true }
def StatsSpreadUptoSaid : Prop := statsSpreadUptoRow.holds Try.pinned (OpenSpec.upto statsSpreadSpec)

/-- 'datumlaw11.StatsShift', WHERE WHAT IT READS IS OF BULK AT MOST 1048576: true; the input reads as it did. -/
def statsShiftUptoRow : OpenClaim := { program := "ytgnihomdpandfaa", sum := "6536fe8459a96be426a2a2c78f8b60c5bc693a9d1cda585ad8053026bf5cee52", func := "datum/datumlaw11.StatsShift", spec := "statsShift", inPlace := ["math/bits.Add64", "math/bits.Sub64"], apart := false, narrowed := true }
def StatsShiftUptoSaid : Prop := statsShiftUptoRow.holds Try.pinned (OpenSpec.upto statsShiftSpec)

/-- 'datumlaw16.TallyAlike', WHERE WHAT IT READS IS OF BULK AT MOST 1048576: true; the input reads as it did. -/
def tallyAlikeUptoRow : OpenClaim := { program := "ytgnihomdpandfaa", sum := "6536fe8459a96be426a2a2c78f8b60c5bc693a9d1cda585ad8053026bf5cee52", func := "datum/datumlaw16.TallyAlike", spec := "tallyAlike", inPlace := ["math/bits.Add64"], unfollowed := true, recurses := true, apart := false, narrowed := true }
def TallyAlikeUptoSaid : Prop := tallyAlikeUptoRow.holds Try.pinned (OpenSpec.upto tallyAlikeSpec)

/-- 'datumlaw11.StatsTell', WHERE WHAT IT READS IS OF BULK AT MOST 1048576: true; the input reads as it did. -/
def statsTellUptoRow : OpenClaim := { program := "ytgnihomdpandfaa", sum := "6536fe8459a96be426a2a2c78f8b60c5bc693a9d1cda585ad8053026bf5cee52", func := "datum/datumlaw11.StatsTell", spec := "statsTell", inPlace := ["math/bits.Add64", "math/bits.Sub64"], apart := false, narrowed := true }
def StatsTellUptoSaid : Prop := statsTellUptoRow.holds Try.pinned (OpenSpec.upto statsTellSpec)

/-- 'datumlaw20.AbleStats', WHERE WHAT IT READS IS OF BULK AT MOST 1048576: true; the input reads as it did. -/
def ableStatsUptoRow : OpenClaim := { program := "ytgnihomdpandfaa", sum := "6536fe8459a96be426a2a2c78f8b60c5bc693a9d1cda585ad8053026bf5cee52", func := "datum/datumlaw20.AbleStats", spec := "ableStats", inPlace := ["math/bits.Add64", "math/bits.Sub64"], unfollowed := true, recurses := true, named := ["math/bits.divideError", "math/bits.overflowError"], apart := false, narrowed := true }
def AbleStatsUptoSaid : Prop := ableStatsUptoRow.holds Try.pinned (OpenSpec.upto ableStatsSpec)

/-- 'datumlaw20.AbleHolds', WHERE WHAT IT READS IS OF BULK AT MOST 1048576: true; the input reads as it did. -/
def ableHoldsUptoRow : OpenClaim := { program := "ytgnihomdpandfaa", sum := "6536fe8459a96be426a2a2c78f8b60c5bc693a9d1cda585ad8053026bf5cee52", func := "datum/datumlaw20.AbleHolds", spec := "ableHolds", inPlace := ["math/bits.Add64", "math/bits.Sub64"], unfollowed := true, recurses := true, named := ["math/bits.divideError", "math/bits.overflowError"], apart := false, narrowed := true }
def AbleHoldsUptoSaid : Prop := ableHoldsUptoRow.holds Try.pinned (OpenSpec.upto ableHoldsSpec)

/-- 'datumlaw20.AbleShift', WHERE WHAT IT READS IS OF BULK AT MOST 1048576: true; the input reads as it did. -/
def ableShiftUptoRow : OpenClaim := { program := "ytgnihomdpandfaa", sum := "6536fe8459a96be426a2a2c78f8b60c5bc693a9d1cda585ad8053026bf5cee52", func := "datum/datumlaw20.AbleShift", spec := "ableShift", inPlace := ["math/bits.Add64", "math/bits.Sub64"], unfollowed := true, recurses := true, named := ["math/bits.divideError", "math/bits.overflowError"], apart := false, narrowed := true }
def AbleShiftUptoSaid : Prop := ableShiftUptoRow.holds Try.pinned (OpenSpec.upto ableShiftSpec)

end Rows
end Go.Proofs.Ytgnihomdpandfaa
