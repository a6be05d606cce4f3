/-
  datumlaw15: BaseShift holds of every input: its contract.
-/
import Derived.Test.YtjbokdekofiihaaSxBsTurn
namespace Go.Proofs.Ytjbokdekofiihaa.X
open Go Go.SX
set_option linter.unusedVariables false
set_option linter.unusedSimpArgs false







def addMu (r : List Int) : List Cv → Nat := fun vs => match vs with
  | [.i k, .l _] => ((r.length : Int) - k).toNat
  | _ => 0
def lbsh_sp : SpecSh := { args := [(.int .i64 (.z 0)), (.lst 0), (.int .i64 (.z 0)), (.int .i64 (.z 0)), (.int .i64 (.z 0))], res := (.bool .f), sh := [.b] }
set_option maxRecDepth 100000 in
def lbsh_tree : Tree :=
.lett (.rem (.v 0) (.z 10)) <|
.lett (.add (.v 5) (.z 10)) <|
.lett (.mod (.v 6) (.z 10)) <|
.lett (.add (.z 1) (.v 7)) <|
.loop [.l, .l] [.l (.nil), .l (.v 1)] <|
.lett (.len 10) <|
.ite (.cmp .le (.v 8) (.v 11)) (.lett (.rows 9) <|
.ite (.cmp .lt (.v 12) (.z 25)) (.letl (.sub 10 (.z 0) (.v 8)) <|
.lett (.len 13) <|
.loop [.i (some (0, 20)), .l] [.i (.z 0), .l (.nil)] <|
.ite (.cmp .lt (.v 15) (.v 14)) (.lett (.nth 13 (.v 15)) <|
.lett (.ite (.cmp .lt (.v 17) (.z (-500000))) (.z (-500000)) (.v 17)) <|
.lett (.ite (.cmp .lt (.z 500000) (.v 18)) (.z 500000) (.v 18)) <|
.lett (.len 16) <|
.ite (.cmp .le (.v 20) (.z 100000)) (.letl (.app 16 [.v 19]) <|
.lett (.add (.v 15) (.z 1)) <|
.again 1 [.i (.v 22), .l (.v 21)]) <|
.bad 113) <|
.all (.letl (.row1 16) <|
.lett (.rows 17) <|
.all (.letl (.cat 9 17) <|
.ite (.cmp .le (.v 8) (.v 11)) (.ite (.cmp .le (.v 11) (.v 11)) (.letl (.sub 10 (.v 8) (.v 11)) <|
.again 0 [.l (.v 19), .l (.v 20)]) <|
.bad 120) <|
.bad 121) <|
.ite (.cmp .le (.v 8) (.v 11)) (.ite (.cmp .le (.v 11) (.v 11)) (.letl (.sub 10 (.v 8) (.v 11)) <|
.letl (.cat 9 17) <|
.again 0 [.l (.v 20), .l (.v 19)]) <|
.bad 120) <|
.bad 121) <|
.ite (.cmp .le (.v 8) (.v 11)) (.ite (.cmp .le (.v 11) (.v 11)) (.letl (.sub 10 (.v 8) (.v 11)) <|
.letl (.row1 16) <|
.lett (.rows 18) <|
.letl (.cat 9 18) <|
.again 0 [.l (.v 20), .l (.v 17)]) <|
.bad 120) <|
.bad 121) <|
.lett (.rem (.v 2) (.z 400000)) <|
.lett (.mul (.v 8) (.z 500000)) <|
.lett (.add (.v 14) (.z 1)) <|
.lett (.rem (.v 3) (.v 15)) <|
.lett (.rem (.v 4) (.z 1000001)) <|
.lett (.add (.v 17) (.z 1000001)) <|
.lett (.mod (.v 18) (.z 1000001)) <|
.lett (.sub (.v 12) (.z 1)) <|
.loop [.i (some ((-1), 30)), .l] [.i (.v 20), .l (.nil)] <|
.ite (.cmp .le (.z 0) (.v 21)) (.ite (.cmp .lt (.v 21) (.v 12)) (.letl (.rowAt 9 (.v 21)) <|
.lett (.len 23) <|
.lett (.sub (.v 24) (.z 1)) <|
.loop [.i (some ((-1), 20)), .l] [.i (.v 25), .l (.nil)] <|
.ite (.cmp .le (.z 0) (.v 26)) (.ite (.cmp .lt (.v 21) (.v 12)) (.letl (.rowAt 9 (.v 21)) <|
.lett (.len 28) <|
.ite (.cmp .lt (.v 26) (.v 29)) (.lett (.nth 28 (.v 26)) <|
.lett (.len 27) <|
.ite (.cmp .le (.v 31) (.z 100000)) (.letl (.app 27 [.v 30]) <|
.lett (.sub (.v 26) (.z 1)) <|
.again 2 [.i (.v 33), .l (.v 32)]) <|
.bad 113) <|
.bad 29) <|
.bad 29) <|
.letl (.row1 27) <|
.lett (.rows 28) <|
.lett (.rows 22) <|
.ite (.cmp .le (.v 30) (.z 100000)) (.letl (.cat 22 28) <|
.lett (.sub (.v 21) (.z 1)) <|
.again 1 [.i (.v 32), .l (.v 31)]) <|
.bad 113) <|
.bad 29) <|
.loop [.i (some (0, 30)), .l] [.i (.z 0), .l (.nil)] <|
.ite (.cmp .lt (.v 23) (.v 12)) (.letl (.rowAt 9 (.v 23)) <|
.lett (.len 25) <|
.loop [.i (some (0, 20)), .l] [.i (.z 0), .l (.nil)] <|
.ite (.cmp .lt (.v 27) (.v 26)) (.lett (.nth 25 (.v 27)) <|
.lett (.addw .i64 (.v 29) (.v 13)) <|
.lett (.len 28) <|
.ite (.cmp .le (.v 31) (.z 100000)) (.letl (.app 28 [.v 30]) <|
.lett (.add (.v 27) (.z 1)) <|
.again 3 [.i (.v 33), .l (.v 32)]) <|
.bad 113) <|
.letl (.row1 28) <|
.lett (.rows 29) <|
.lett (.rows 24) <|
.ite (.cmp .le (.v 31) (.z 100000)) (.letl (.cat 24 29) <|
.lett (.add (.v 23) (.z 1)) <|
.again 2 [.i (.v 33), .l (.v 32)]) <|
.bad 113) <|
.call 11 [.i (some (1, 10)), .i (some (0, 0)), .i (some (0, 0)), .i (some (0, 0)), .i (some (0, 0)), .i (some (0, 0))] [.i (.v 8)] <|
.loop [.i (some (0, 30)), .i (some (0, 10)), .i (some (0, 25)), .i (some ((-1000000000), 1000000000)), .i (some (0, 100000000)), .i (some ((-1000000), 1000000))] [.i (.z 0), .i (.v 25), .i (.v 26), .i (.v 27), .i (.v 28), .i (.v 29)] <|
.ite (.cmp .lt (.v 31) (.v 12)) (.letl (.rowAt 9 (.v 31)) <|
.call 12 [.i (some (1, 10)), .i (some (1, 25)), .i (some ((-250000000), 250000000)), .i (some (0, 50000000)), .i (some ((-1000000), 1000000)), .i (some (0, 0))] [.i (.v 32), .i (.v 33), .i (.v 34), .i (.v 35), .i (.v 36), .l (.v 37)] <|
.lett (.add (.v 31) (.z 1)) <|
.again 3 [.i (.v 44), .i (.v 38), .i (.v 39), .i (.v 40), .i (.v 41), .i (.v 42)]) <|
.call 11 [.i (some (1, 10)), .i (some (0, 0)), .i (some (0, 0)), .i (some (0, 0)), .i (some (0, 0)), .i (some (0, 0))] [.i (.v 8)] <|
.lett (.rows 24) <|
.loop [.i (some (0, 30)), .i (some (0, 10)), .i (some (0, 25)), .i (some ((-1000000000), 1000000000)), .i (some (0, 100000000)), .i (some ((-1000000), 1000000))] [.i (.z 0), .i (.v 37), .i (.v 38), .i (.v 39), .i (.v 40), .i (.v 41)] <|
.ite (.cmp .lt (.v 44) (.v 43)) (.letl (.rowAt 24 (.v 44)) <|
.call 12 [.i (some (1, 10)), .i (some (1, 25)), .i (some ((-250000000), 250000000)), .i (some (0, 50000000)), .i (some ((-1000000), 1000000)), .i (some (0, 0))] [.i (.v 45), .i (.v 46), .i (.v 47), .i (.v 48), .i (.v 49), .l (.v 50)] <|
.lett (.add (.v 44) (.z 1)) <|
.again 4 [.i (.v 57), .i (.v 51), .i (.v 52), .i (.v 53), .i (.v 54), .i (.v 55)]) <|
.call 11 [.i (some (1, 10)), .i (some (0, 0)), .i (some (0, 0)), .i (some (0, 0)), .i (some (0, 0)), .i (some (0, 0))] [.i (.v 8)] <|
.lett (.rows 22) <|
.loop [.i (some (0, 30)), .i (some (0, 10)), .i (some (0, 25)), .i (some ((-1000000000), 1000000000)), .i (some (0, 100000000)), .i (some ((-1000000), 1000000))] [.i (.z 0), .i (.v 50), .i (.v 51), .i (.v 52), .i (.v 53), .i (.v 54)] <|
.ite (.cmp .lt (.v 57) (.v 56)) (.letl (.rowAt 22 (.v 57)) <|
.call 12 [.i (some (1, 10)), .i (some (1, 25)), .i (some ((-250000000), 250000000)), .i (some (0, 50000000)), .i (some ((-1000000), 1000000)), .i (some (0, 0))] [.i (.v 58), .i (.v 59), .i (.v 60), .i (.v 61), .i (.v 62), .l (.v 63)] <|
.lett (.add (.v 57) (.z 1)) <|
.again 5 [.i (.v 70), .i (.v 64), .i (.v 65), .i (.v 66), .i (.v 67), .i (.v 68)]) <|
.ite (.not (.cmp .eq (.v 35) (.v 48))) (.ret (.bool .f)) <|
.ite (.not (.cmp .eq (.v 35) (.v 61))) (.ret (.bool .f)) <|
.ite (.not (.cmp .eq (.v 34) (.v 60))) (.ret (.bool .f)) <|
.ite (.not (.cmp .eq (.v 33) (.v 59))) (.ret (.bool .f)) <|
.call 8 [.b] [] <|
.ite (.not (.v 63)) (.ret (.bool .f)) <|
.call 9 [.i (some ((-9223372036854775808), 9223372036854775807)), .i (some ((-9223372036854775808), 9223372036854775807)), .i (some ((-9223372036854775808), 9223372036854775807)), .i (some (0, 18446744073709551615)), .i (some (0, 18446744073709551615)), .i (some ((-9223372036854775808), 9223372036854775807))] [.i (.v 32), .i (.v 33), .i (.v 34), .i (.v 35), .i (.v 36), .i (.v 16)] <|
.lett (.mul (.v 13) (.v 8)) <|
.lett (.add (.v 16) (.v 70)) <|
.call 9 [.i (some ((-9223372036854775808), 9223372036854775807)), .i (some ((-9223372036854775808), 9223372036854775807)), .i (some ((-9223372036854775808), 9223372036854775807)), .i (some (0, 18446744073709551615)), .i (some (0, 18446744073709551615)), .i (some ((-9223372036854775808), 9223372036854775807))] [.i (.v 45), .i (.v 46), .i (.v 47), .i (.v 48), .i (.v 49), .i (.v 71)] <|
.call 10 [.i (some ((-9223372036854775808), 9223372036854775807)), .i (some ((-9223372036854775808), 9223372036854775807))] [.i (.v 32), .i (.v 33), .i (.v 34), .i (.v 35), .i (.v 36), .i (.v 19)] <|
.call 10 [.i (some ((-9223372036854775808), 9223372036854775807)), .i (some ((-9223372036854775808), 9223372036854775807))] [.i (.v 45), .i (.v 46), .i (.v 47), .i (.v 48), .i (.v 49), .i (.v 19)] <|
.ite (.cmp .eq (.v 69) (.z 0)) (.ite (.cmp .eq (.v 77) (.z 0)) (.ite (.cmp .eq (.v 79) (.z 0)) (.ite (.cmp .eq (.v 81) (.z 0)) (.ite (.cmp .eq (.v 66) (.v 74)) (.ite (.and (.cmp .eq (.v 67) (.v 75)) (.cmp .eq (.v 68) (.v 76))) (.ite (.cmp .eq (.v 65) (.v 73)) (.lett (.mulw .i64 (.v 13) (.v 65)) <|
.lett (.addw .i64 (.v 64) (.v 82)) <|
.ite (.cmp .eq (.v 72) (.v 83)) (.ret (.bool (.cmp .eq (.v 78) (.v 80)))) <|
.ret (.bool .f)) <|
.ret (.bool .f)) <|
.ret (.bool .f)) <|
.ret (.bool .f)) <|
.ret (.bool .f)) <|
.ret (.bool .f)) <|
.ret (.bool .f)) <|
.ret (.bool .f)) <|
.lett (.rem (.v 2) (.z 400000)) <|
.lett (.mul (.v 8) (.z 500000)) <|
.lett (.add (.v 13) (.z 1)) <|
.lett (.rem (.v 3) (.v 14)) <|
.lett (.rem (.v 4) (.z 1000001)) <|
.lett (.add (.v 16) (.z 1000001)) <|
.lett (.mod (.v 17) (.z 1000001)) <|
.lett (.rows 9) <|
.lett (.sub (.v 19) (.z 1)) <|
.loop [.i (some ((-1), 30)), .l] [.i (.v 20), .l (.nil)] <|
.ite (.cmp .le (.z 0) (.v 21)) (.ite (.cmp .lt (.v 21) (.v 19)) (.letl (.rowAt 9 (.v 21)) <|
.lett (.len 23) <|
.lett (.sub (.v 24) (.z 1)) <|
.loop [.i (some ((-1), 20)), .l] [.i (.v 25), .l (.nil)] <|
.ite (.cmp .le (.z 0) (.v 26)) (.ite (.cmp .lt (.v 21) (.v 19)) (.letl (.rowAt 9 (.v 21)) <|
.lett (.len 28) <|
.ite (.cmp .lt (.v 26) (.v 29)) (.lett (.nth 28 (.v 26)) <|
.lett (.len 27) <|
.ite (.cmp .le (.v 31) (.z 100000)) (.letl (.app 27 [.v 30]) <|
.lett (.sub (.v 26) (.z 1)) <|
.again 2 [.i (.v 33), .l (.v 32)]) <|
.bad 113) <|
.bad 29) <|
.bad 29) <|
.letl (.row1 27) <|
.lett (.rows 28) <|
.lett (.rows 22) <|
.ite (.cmp .le (.v 30) (.z 100000)) (.letl (.cat 22 28) <|
.lett (.sub (.v 21) (.z 1)) <|
.again 1 [.i (.v 32), .l (.v 31)]) <|
.bad 113) <|
.bad 29) <|
.loop [.i (some (0, 30)), .l] [.i (.z 0), .l (.nil)] <|
.ite (.cmp .lt (.v 23) (.v 19)) (.letl (.rowAt 9 (.v 23)) <|
.lett (.len 25) <|
.loop [.i (some (0, 20)), .l] [.i (.z 0), .l (.nil)] <|
.ite (.cmp .lt (.v 27) (.v 26)) (.lett (.nth 25 (.v 27)) <|
.lett (.addw .i64 (.v 29) (.v 12)) <|
.lett (.len 28) <|
.ite (.cmp .le (.v 31) (.z 100000)) (.letl (.app 28 [.v 30]) <|
.lett (.add (.v 27) (.z 1)) <|
.again 3 [.i (.v 33), .l (.v 32)]) <|
.bad 113) <|
.letl (.row1 28) <|
.lett (.rows 29) <|
.lett (.rows 24) <|
.ite (.cmp .le (.v 31) (.z 100000)) (.letl (.cat 24 29) <|
.lett (.add (.v 23) (.z 1)) <|
.again 2 [.i (.v 33), .l (.v 32)]) <|
.bad 113) <|
.call 11 [.i (some (1, 10)), .i (some (0, 0)), .i (some (0, 0)), .i (some (0, 0)), .i (some (0, 0)), .i (some (0, 0))] [.i (.v 8)] <|
.loop [.i (some (0, 30)), .i (some (0, 10)), .i (some (0, 25)), .i (some ((-1000000000), 1000000000)), .i (some (0, 100000000)), .i (some ((-1000000), 1000000))] [.i (.z 0), .i (.v 25), .i (.v 26), .i (.v 27), .i (.v 28), .i (.v 29)] <|
.ite (.cmp .lt (.v 31) (.v 19)) (.letl (.rowAt 9 (.v 31)) <|
.call 12 [.i (some (1, 10)), .i (some (1, 25)), .i (some ((-250000000), 250000000)), .i (some (0, 50000000)), .i (some ((-1000000), 1000000)), .i (some (0, 0))] [.i (.v 32), .i (.v 33), .i (.v 34), .i (.v 35), .i (.v 36), .l (.v 37)] <|
.lett (.add (.v 31) (.z 1)) <|
.again 3 [.i (.v 44), .i (.v 38), .i (.v 39), .i (.v 40), .i (.v 41), .i (.v 42)]) <|
.call 11 [.i (some (1, 10)), .i (some (0, 0)), .i (some (0, 0)), .i (some (0, 0)), .i (some (0, 0)), .i (some (0, 0))] [.i (.v 8)] <|
.lett (.rows 24) <|
.loop [.i (some (0, 30)), .i (some (0, 10)), .i (some (0, 25)), .i (some ((-1000000000), 1000000000)), .i (some (0, 100000000)), .i (some ((-1000000), 1000000))] [.i (.z 0), .i (.v 37), .i (.v 38), .i (.v 39), .i (.v 40), .i (.v 41)] <|
.ite (.cmp .lt (.v 44) (.v 43)) (.letl (.rowAt 24 (.v 44)) <|
.call 12 [.i (some (1, 10)), .i (some (1, 25)), .i (some ((-250000000), 250000000)), .i (some (0, 50000000)), .i (some ((-1000000), 1000000)), .i (some (0, 0))] [.i (.v 45), .i (.v 46), .i (.v 47), .i (.v 48), .i (.v 49), .l (.v 50)] <|
.lett (.add (.v 44) (.z 1)) <|
.again 4 [.i (.v 57), .i (.v 51), .i (.v 52), .i (.v 53), .i (.v 54), .i (.v 55)]) <|
.call 11 [.i (some (1, 10)), .i (some (0, 0)), .i (some (0, 0)), .i (some (0, 0)), .i (some (0, 0)), .i (some (0, 0))] [.i (.v 8)] <|
.lett (.rows 22) <|
.loop [.i (some (0, 30)), .i (some (0, 10)), .i (some (0, 25)), .i (some ((-1000000000), 1000000000)), .i (some (0, 100000000)), .i (some ((-1000000), 1000000))] [.i (.z 0), .i (.v 50), .i (.v 51), .i (.v 52), .i (.v 53), .i (.v 54)] <|
.ite (.cmp .lt (.v 57) (.v 56)) (.letl (.rowAt 22 (.v 57)) <|
.call 12 [.i (some (1, 10)), .i (some (1, 25)), .i (some ((-250000000), 250000000)), .i (some (0, 50000000)), .i (some ((-1000000), 1000000)), .i (some (0, 0))] [.i (.v 58), .i (.v 59), .i (.v 60), .i (.v 61), .i (.v 62), .l (.v 63)] <|
.lett (.add (.v 57) (.z 1)) <|
.again 5 [.i (.v 70), .i (.v 64), .i (.v 65), .i (.v 66), .i (.v 67), .i (.v 68)]) <|
.ite (.not (.cmp .eq (.v 35) (.v 48))) (.ret (.bool .f)) <|
.ite (.not (.cmp .eq (.v 35) (.v 61))) (.ret (.bool .f)) <|
.ite (.not (.cmp .eq (.v 34) (.v 60))) (.ret (.bool .f)) <|
.ite (.not (.cmp .eq (.v 33) (.v 59))) (.ret (.bool .f)) <|
.call 8 [.b] [] <|
.ite (.not (.v 63)) (.ret (.bool .f)) <|
.call 9 [.i (some ((-9223372036854775808), 9223372036854775807)), .i (some ((-9223372036854775808), 9223372036854775807)), .i (some ((-9223372036854775808), 9223372036854775807)), .i (some (0, 18446744073709551615)), .i (some (0, 18446744073709551615)), .i (some ((-9223372036854775808), 9223372036854775807))] [.i (.v 32), .i (.v 33), .i (.v 34), .i (.v 35), .i (.v 36), .i (.v 15)] <|
.lett (.mul (.v 12) (.v 8)) <|
.lett (.add (.v 15) (.v 70)) <|
.call 9 [.i (some ((-9223372036854775808), 9223372036854775807)), .i (some ((-9223372036854775808), 9223372036854775807)), .i (some ((-9223372036854775808), 9223372036854775807)), .i (some (0, 18446744073709551615)), .i (some (0, 18446744073709551615)), .i (some ((-9223372036854775808), 9223372036854775807))] [.i (.v 45), .i (.v 46), .i (.v 47), .i (.v 48), .i (.v 49), .i (.v 71)] <|
.call 10 [.i (some ((-9223372036854775808), 9223372036854775807)), .i (some ((-9223372036854775808), 9223372036854775807))] [.i (.v 32), .i (.v 33), .i (.v 34), .i (.v 35), .i (.v 36), .i (.v 18)] <|
.call 10 [.i (some ((-9223372036854775808), 9223372036854775807)), .i (some ((-9223372036854775808), 9223372036854775807))] [.i (.v 45), .i (.v 46), .i (.v 47), .i (.v 48), .i (.v 49), .i (.v 18)] <|
.ite (.cmp .lt (.v 19) (.z 2)) (.ite (.cmp .eq (.v 69) (.z 12)) (.ite (.cmp .eq (.v 77) (.z 12)) (.ite (.cmp .eq (.v 79) (.z 12)) (.ret (.bool (.cmp .eq (.v 81) (.z 12)))) <|
.ret (.bool .f)) <|
.ret (.bool .f)) <|
.ret (.bool .f)) <|
.ite (.cmp .eq (.v 69) (.z 0)) (.ite (.cmp .eq (.v 77) (.z 0)) (.ite (.cmp .eq (.v 79) (.z 0)) (.ite (.cmp .eq (.v 81) (.z 0)) (.ite (.cmp .eq (.v 66) (.v 74)) (.ite (.and (.cmp .eq (.v 67) (.v 75)) (.cmp .eq (.v 68) (.v 76))) (.ite (.cmp .eq (.v 65) (.v 73)) (.lett (.mulw .i64 (.v 12) (.v 65)) <|
.lett (.addw .i64 (.v 64) (.v 82)) <|
.ite (.cmp .eq (.v 72) (.v 83)) (.ret (.bool (.cmp .eq (.v 78) (.v 80)))) <|
.ret (.bool .f)) <|
.ret (.bool .f)) <|
.ret (.bool .f)) <|
.ret (.bool .f)) <|
.ret (.bool .f)) <|
.ret (.bool .f)) <|
.ret (.bool .f)) <|
.ret (.bool .f)
noncomputable def lbsh_cx : Ctx := { tys := tys, fns := fns, mets := mets, sps := [(11, bnewn_sp), (12, btaken_sp), (9, bpoint_sp), (10, bwide_sp), (8, bal_sp)], anns := [((6, 3), { slots := [], cells := [], ivs := [], lsts := [8, 100001], elem := (1000000 + 22) }), ((6, 6), { slots := [30], cells := [], ivs := [some (0, 20)], lsts := [9], elem := 3 }), ((7, 5), { slots := [22], cells := [], ivs := [some (0, 30), some (0, 10), some (0, 25), some ((-1000000000), 1000000000), some (0, 100000000), some ((-1000000), 1000000)], pc := [(6, 0), (6, 1), (6, 2), (6, 3), (6, 4)] }), ((4, 5), { slots := [14], cells := [], ivs := [some ((-1), 30)], lsts := [13], elem := (1000000 + 22) }), ((4, 9), { slots := [16], cells := [], ivs := [some ((-1), 20)], lsts := [15], elem := 3 }), ((4, 14), { slots := [86], cells := [], ivs := [some (0, 30)], lsts := [12], elem := (1000000 + 22) }), ((4, 18), { slots := [92], cells := [], ivs := [some (0, 20)], lsts := [19], elem := 3 })], trys := [] }
def lbsh_ivs : List (Option (Int × Int)) := [some ((-9223372036854775808), 9223372036854775807), none, some ((-9223372036854775808), 9223372036854775807), some ((-9223372036854775808), 9223372036854775807), some ((-9223372036854775808), 9223372036854775807)]
set_option maxRecDepth 100000 in
theorem lbsh_walk : runFn lbsh_cx 3000 4 Try.f4 lbsh_sp.args lbsh_ivs = lbsh_tree := by kernel_rfl
noncomputable def lbsh_M : Nat → SpecSem
  | 11 => bnewn_sem
  | 12 => btaken_sem
  | 9 => bpoint_sem
  | 10 => bwide_sem
  | 8 => bal_sem
  | _ => noSem
theorem lbsh_M11 : lbsh_M 11 = bnewn_sem := rfl
theorem lbsh_M12 : lbsh_M 12 = btaken_sem := rfl
theorem lbsh_M9 : lbsh_M 9 = bpoint_sem := rfl
theorem lbsh_M10 : lbsh_M 10 = bwide_sem := rfl
theorem lbsh_M8 : lbsh_M 8 = bal_sem := rfl
theorem lbsh_cxok : CxOK Try.prog lbsh_cx lbsh_M := ⟨tysOK, fnsOK, spCons bnewn_ok <| spCons btaken_ok <| spCons bpoint_ok <| spCons bwide_ok <| spCons bal_ok <| fun _ _ h => spNil h, mixedOK, fun _ _ h => trNil h, fun _ _ h => atNil h, metsOK⟩
set_option maxRecDepth 100000 in
set_option maxHeartbeats 8000000 in
theorem lbsh_den (R RP : Value → Prop) (F : Ex → St → Js → Env → Prop) (x0 : Int) (x1 : List Int) (x2 : Int) (x3 : Int) (x4 : Int) : Tree.den lbsh_M R RP F lbsh_tree [] [(.i x0), (.l x1), (.i x2), (.i x3), (.i x4)] = (
  ∀ x5 : Int, x5 = (Int.tmod x0 (10 : Int)) →
∀ x6 : Int, x6 = (x5 + (10 : Int)) →
∀ x7 : Int, x7 = (x6 % (10 : Int)) →
∀ x8 : Int, x8 = ((1 : Int) + x7) →
∃ (I0 : List Cv → Prop) (mu0 : List Cv → Nat), Fits [.l, .l] [(.l (([] : List Int))), (.l (x1))] ∧ I0 [(.l (([] : List Int))), (.l (x1))] ∧ (
∀ x9 : List Int, InI x9 → ∀ x10 : List Int, InI x10 → I0 [.l x9, .l x10] →
∀ x11 : Int, x11 = ((List.length x10 : Int)) →
((Cmp.den .le x8 x11) = true → ∀ x12 : Int, x12 = ((List.length (dec x9) : Int)) →
((Cmp.den .lt x12 (25 : Int)) = true → ∀ x13 : List Int, x13 = (List.take (Int.toNat x8 - Int.toNat (0 : Int)) (List.drop (Int.toNat (0 : Int)) x10)) →
∀ x14 : Int, x14 = ((List.length x13 : Int)) →
∃ (I1 : List Cv → Prop) (mu1 : List Cv → Nat), Fits [.i (some ((0), (20))), .l] [(.i (0 : Int)), (.l (([] : List Int)))] ∧ I1 [(.i (0 : Int)), (.l (([] : List Int)))] ∧ (
∀ x15 : Int, (0 : Int) ≤ x15 → x15 ≤ (20 : Int) → ∀ x16 : List Int, InI x16 → I1 [.i x15, .l x16] →
((Cmp.den .lt x15 x14) = true → ∀ x17 : Int, x17 = (List.getD x13 (Int.toNat x15) 0) →
∀ x18 : Int, x18 = (if (Cmp.den .lt x17 (-500000 : Int)) = true then (-500000 : Int) else x17) →
∀ x19 : Int, x19 = (if (Cmp.den .lt (500000 : Int) x18) = true then (500000 : Int) else x18) →
∀ x20 : Int, x20 = ((List.length x16 : Int)) →
((Cmp.den .le x20 (100000 : Int)) = true → ∀ x21 : List Int, x21 = (x16 ++ ([x19] : List Int)) →
∀ x22 : Int, x22 = (x15 + (1 : Int)) →
Fits [.i (some ((0), (20))), .l] [(.i x22), (.l (x21))] ∧ I1 [(.i x22), (.l (x21))] ∧ mu1 [(.i x22), (.l (x21))] < mu1 [.i x15, .l x16]) ∧ ((Cmp.den .le x20 (100000 : Int)) = false → False)) ∧ ((Cmp.den .lt x15 x14) = false → (∀ x17 : List Int, x17 = ((List.length x16 : Int) :: x16) →
∀ x18 : Int, x18 = ((List.length (dec x17) : Int)) →
(∀ x19 : List Int, x19 = (x9 ++ x17) →
((Cmp.den .le x8 x11) = true → ((Cmp.den .le x11 x11) = true → ∀ x20 : List Int, x20 = (List.take (Int.toNat x11 - Int.toNat x8) (List.drop (Int.toNat x8) x10)) →
Fits [.l, .l] [(.l (x19)), (.l (x20))] ∧ I0 [(.l (x19)), (.l (x20))] ∧ mu0 [(.l (x19)), (.l (x20))] < mu0 [.l x9, .l x10]) ∧ ((Cmp.den .le x11 x11) = false → False)) ∧ ((Cmp.den .le x8 x11) = false → False)) ∧ (((Cmp.den .le x8 x11) = true → ((Cmp.den .le x11 x11) = true → ∀ x19 : List Int, x19 = (List.take (Int.toNat x11 - Int.toNat x8) (List.drop (Int.toNat x8) x10)) →
∀ x20 : List Int, x20 = (x9 ++ x17) →
Fits [.l, .l] [(.l (x20)), (.l (x19))] ∧ I0 [(.l (x20)), (.l (x19))] ∧ mu0 [(.l (x20)), (.l (x19))] < mu0 [.l x9, .l x10]) ∧ ((Cmp.den .le x11 x11) = false → False)) ∧ ((Cmp.den .le x8 x11) = false → False))) ∧ (((Cmp.den .le x8 x11) = true → ((Cmp.den .le x11 x11) = true → ∀ x17 : List Int, x17 = (List.take (Int.toNat x11 - Int.toNat x8) (List.drop (Int.toNat x8) x10)) →
∀ x18 : List Int, x18 = ((List.length x16 : Int) :: x16) →
∀ x19 : Int, x19 = ((List.length (dec x18) : Int)) →
∀ x20 : List Int, x20 = (x9 ++ x18) →
Fits [.l, .l] [(.l (x20)), (.l (x17))] ∧ I0 [(.l (x20)), (.l (x17))] ∧ mu0 [(.l (x20)), (.l (x17))] < mu0 [.l x9, .l x10]) ∧ ((Cmp.den .le x11 x11) = false → False)) ∧ ((Cmp.den .le x8 x11) = false → False))))) ∧ ((Cmp.den .lt x12 (25 : Int)) = false → ∀ x13 : Int, x13 = (Int.tmod x2 (400000 : Int)) →
∀ x14 : Int, x14 = (x8 * (500000 : Int)) →
∀ x15 : Int, x15 = (x14 + (1 : Int)) →
∀ x16 : Int, x16 = (Int.tmod x3 x15) →
∀ x17 : Int, x17 = (Int.tmod x4 (1000001 : Int)) →
∀ x18 : Int, x18 = (x17 + (1000001 : Int)) →
∀ x19 : Int, x19 = (x18 % (1000001 : Int)) →
∀ x20 : Int, x20 = (x12 - (1 : Int)) →
∃ (I1 : List Cv → Prop) (mu1 : List Cv → Nat), Fits [.i (some ((-1), (30))), .l] [(.i x20), (.l (([] : List Int)))] ∧ I1 [(.i x20), (.l (([] : List Int)))] ∧ (
∀ x21 : Int, (-1 : Int) ≤ x21 → x21 ≤ (30 : Int) → ∀ x22 : List Int, InI x22 → I1 [.i x21, .l x22] →
((Cmp.den .le (0 : Int) x21) = true → ((Cmp.den .lt x21 x12) = true → ∀ x23 : List Int, x23 = (List.getD (dec x9) (Int.toNat x21) []) →
∀ x24 : Int, x24 = ((List.length x23 : Int)) →
∀ x25 : Int, x25 = (x24 - (1 : Int)) →
∃ (I2 : List Cv → Prop) (mu2 : List Cv → Nat), Fits [.i (some ((-1), (20))), .l] [(.i x25), (.l (([] : List Int)))] ∧ I2 [(.i x25), (.l (([] : List Int)))] ∧ (
∀ x26 : Int, (-1 : Int) ≤ x26 → x26 ≤ (20 : Int) → ∀ x27 : List Int, InI x27 → I2 [.i x26, .l x27] →
((Cmp.den .le (0 : Int) x26) = true → ((Cmp.den .lt x21 x12) = true → ∀ x28 : List Int, x28 = (List.getD (dec x9) (Int.toNat x21) []) →
∀ x29 : Int, x29 = ((List.length x28 : Int)) →
((Cmp.den .lt x26 x29) = true → ∀ x30 : Int, x30 = (List.getD x28 (Int.toNat x26) 0) →
∀ x31 : Int, x31 = ((List.length x27 : Int)) →
((Cmp.den .le x31 (100000 : Int)) = true → ∀ x32 : List Int, x32 = (x27 ++ ([x30] : List Int)) →
∀ x33 : Int, x33 = (x26 - (1 : Int)) →
Fits [.i (some ((-1), (20))), .l] [(.i x33), (.l (x32))] ∧ I2 [(.i x33), (.l (x32))] ∧ mu2 [(.i x33), (.l (x32))] < mu2 [.i x26, .l x27]) ∧ ((Cmp.den .le x31 (100000 : Int)) = false → False)) ∧ ((Cmp.den .lt x26 x29) = false → False)) ∧ ((Cmp.den .lt x21 x12) = false → False)) ∧ ((Cmp.den .le (0 : Int) x26) = false → ∀ x28 : List Int, x28 = ((List.length x27 : Int) :: x27) →
∀ x29 : Int, x29 = ((List.length (dec x28) : Int)) →
∀ x30 : Int, x30 = ((List.length (dec x22) : Int)) →
((Cmp.den .le x30 (100000 : Int)) = true → ∀ x31 : List Int, x31 = (x22 ++ x28) →
∀ x32 : Int, x32 = (x21 - (1 : Int)) →
Fits [.i (some ((-1), (30))), .l] [(.i x32), (.l (x31))] ∧ I1 [(.i x32), (.l (x31))] ∧ mu1 [(.i x32), (.l (x31))] < mu1 [.i x21, .l x22]) ∧ ((Cmp.den .le x30 (100000 : Int)) = false → False)))) ∧ ((Cmp.den .lt x21 x12) = false → False)) ∧ ((Cmp.den .le (0 : Int) x21) = false → ∃ (I2 : List Cv → Prop) (mu2 : List Cv → Nat), Fits [.i (some ((0), (30))), .l] [(.i (0 : Int)), (.l (([] : List Int)))] ∧ I2 [(.i (0 : Int)), (.l (([] : List Int)))] ∧ (
∀ x23 : Int, (0 : Int) ≤ x23 → x23 ≤ (30 : Int) → ∀ x24 : List Int, InI x24 → I2 [.i x23, .l x24] →
((Cmp.den .lt x23 x12) = true → ∀ x25 : List Int, x25 = (List.getD (dec x9) (Int.toNat x23) []) →
∀ x26 : Int, x26 = ((List.length x25 : Int)) →
∃ (I3 : List Cv → Prop) (mu3 : List Cv → Nat), Fits [.i (some ((0), (20))), .l] [(.i (0 : Int)), (.l (([] : List Int)))] ∧ I3 [(.i (0 : Int)), (.l (([] : List Int)))] ∧ (
∀ x27 : Int, (0 : Int) ≤ x27 → x27 ≤ (20 : Int) → ∀ x28 : List Int, InI x28 → I3 [.i x27, .l x28] →
((Cmp.den .lt x27 x26) = true → ∀ x29 : Int, x29 = (List.getD x25 (Int.toNat x27) 0) →
∀ x30 : Int, x30 = (IntKind.i64.wrap (x29 + x13)) →
∀ x31 : Int, x31 = ((List.length x28 : Int)) →
((Cmp.den .le x31 (100000 : Int)) = true → ∀ x32 : List Int, x32 = (x28 ++ ([x30] : List Int)) →
∀ x33 : Int, x33 = (x27 + (1 : Int)) →
Fits [.i (some ((0), (20))), .l] [(.i x33), (.l (x32))] ∧ I3 [(.i x33), (.l (x32))] ∧ mu3 [(.i x33), (.l (x32))] < mu3 [.i x27, .l x28]) ∧ ((Cmp.den .le x31 (100000 : Int)) = false → False)) ∧ ((Cmp.den .lt x27 x26) = false → ∀ x29 : List Int, x29 = ((List.length x28 : Int) :: x28) →
∀ x30 : Int, x30 = ((List.length (dec x29) : Int)) →
∀ x31 : Int, x31 = ((List.length (dec x24) : Int)) →
((Cmp.den .le x31 (100000 : Int)) = true → ∀ x32 : List Int, x32 = (x24 ++ x29) →
∀ x33 : Int, x33 = (x23 + (1 : Int)) →
Fits [.i (some ((0), (30))), .l] [(.i x33), (.l (x32))] ∧ I2 [(.i x33), (.l (x32))] ∧ mu2 [(.i x33), (.l (x32))] < mu2 [.i x23, .l x24]) ∧ ((Cmp.den .le x31 (100000 : Int)) = false → False)))) ∧ ((Cmp.den .lt x23 x12) = false → (bnewn_sem.pre [(.i x8)]) ∧ (
∀ x25 : Int, x25 = (Cv.int (Env.get (bnewn_sem.out [(.i x8)]) 0)) → (1 : Int) ≤ x25 → x25 ≤ (10 : Int) →
∀ x26 : Int, x26 = (Cv.int (Env.get (bnewn_sem.out [(.i x8)]) 1)) → (0 : Int) ≤ x26 → x26 ≤ (0 : Int) →
∀ x27 : Int, x27 = (Cv.int (Env.get (bnewn_sem.out [(.i x8)]) 2)) → (0 : Int) ≤ x27 → x27 ≤ (0 : Int) →
∀ x28 : Int, x28 = (Cv.int (Env.get (bnewn_sem.out [(.i x8)]) 3)) → (0 : Int) ≤ x28 → x28 ≤ (0 : Int) →
∀ x29 : Int, x29 = (Cv.int (Env.get (bnewn_sem.out [(.i x8)]) 4)) → (0 : Int) ≤ x29 → x29 ≤ (0 : Int) →
∀ x30 : Int, x30 = (Cv.int (Env.get (bnewn_sem.out [(.i x8)]) 5)) → (0 : Int) ≤ x30 → x30 ≤ (0 : Int) →
∃ (I3 : List Cv → Prop) (mu3 : List Cv → Nat), Fits [.i (some ((0), (30))), .i (some ((0), (10))), .i (some ((0), (25))), .i (some ((-1000000000), (1000000000))), .i (some ((0), (100000000))), .i (some ((-1000000), (1000000)))] [(.i (0 : Int)), (.i x25), (.i x26), (.i x27), (.i x28), (.i x29)] ∧ I3 [(.i (0 : Int)), (.i x25), (.i x26), (.i x27), (.i x28), (.i x29)] ∧ (
∀ x31 : Int, (0 : Int) ≤ x31 → x31 ≤ (30 : Int) → ∀ x32 : Int, (0 : Int) ≤ x32 → x32 ≤ (10 : Int) → ∀ x33 : Int, (0 : Int) ≤ x33 → x33 ≤ (25 : Int) → ∀ x34 : Int, (-1000000000 : Int) ≤ x34 → x34 ≤ (1000000000 : Int) → ∀ x35 : Int, (0 : Int) ≤ x35 → x35 ≤ (100000000 : Int) → ∀ x36 : Int, (-1000000 : Int) ≤ x36 → x36 ≤ (1000000 : Int) → I3 [.i x31, .i x32, .i x33, .i x34, .i x35, .i x36] →
((Cmp.den .lt x31 x12) = true → ∀ x37 : List Int, x37 = (List.getD (dec x9) (Int.toNat x31) []) →
(btaken_sem.pre [(.i x32), (.i x33), (.i x34), (.i x35), (.i x36), (.l (x37))]) ∧ (
∀ x38 : Int, x38 = (Cv.int (Env.get (btaken_sem.out [(.i x32), (.i x33), (.i x34), (.i x35), (.i x36), (.l (x37))]) 0)) → (1 : Int) ≤ x38 → x38 ≤ (10 : Int) →
∀ x39 : Int, x39 = (Cv.int (Env.get (btaken_sem.out [(.i x32), (.i x33), (.i x34), (.i x35), (.i x36), (.l (x37))]) 1)) → (1 : Int) ≤ x39 → x39 ≤ (25 : Int) →
∀ x40 : Int, x40 = (Cv.int (Env.get (btaken_sem.out [(.i x32), (.i x33), (.i x34), (.i x35), (.i x36), (.l (x37))]) 2)) → (-250000000 : Int) ≤ x40 → x40 ≤ (250000000 : Int) →
∀ x41 : Int, x41 = (Cv.int (Env.get (btaken_sem.out [(.i x32), (.i x33), (.i x34), (.i x35), (.i x36), (.l (x37))]) 3)) → (0 : Int) ≤ x41 → x41 ≤ (50000000 : Int) →
∀ x42 : Int, x42 = (Cv.int (Env.get (btaken_sem.out [(.i x32), (.i x33), (.i x34), (.i x35), (.i x36), (.l (x37))]) 4)) → (-1000000 : Int) ≤ x42 → x42 ≤ (1000000 : Int) →
∀ x43 : Int, x43 = (Cv.int (Env.get (btaken_sem.out [(.i x32), (.i x33), (.i x34), (.i x35), (.i x36), (.l (x37))]) 5)) → (0 : Int) ≤ x43 → x43 ≤ (0 : Int) →
∀ x44 : Int, x44 = (x31 + (1 : Int)) →
Fits [.i (some ((0), (30))), .i (some ((0), (10))), .i (some ((0), (25))), .i (some ((-1000000000), (1000000000))), .i (some ((0), (100000000))), .i (some ((-1000000), (1000000)))] [(.i x44), (.i x38), (.i x39), (.i x40), (.i x41), (.i x42)] ∧ I3 [(.i x44), (.i x38), (.i x39), (.i x40), (.i x41), (.i x42)] ∧ mu3 [(.i x44), (.i x38), (.i x39), (.i x40), (.i x41), (.i x42)] < mu3 [.i x31, .i x32, .i x33, .i x34, .i x35, .i x36])) ∧ ((Cmp.den .lt x31 x12) = false → (bnewn_sem.pre [(.i x8)]) ∧ (
∀ x37 : Int, x37 = (Cv.int (Env.get (bnewn_sem.out [(.i x8)]) 0)) → (1 : Int) ≤ x37 → x37 ≤ (10 : Int) →
∀ x38 : Int, x38 = (Cv.int (Env.get (bnewn_sem.out [(.i x8)]) 1)) → (0 : Int) ≤ x38 → x38 ≤ (0 : Int) →
∀ x39 : Int, x39 = (Cv.int (Env.get (bnewn_sem.out [(.i x8)]) 2)) → (0 : Int) ≤ x39 → x39 ≤ (0 : Int) →
∀ x40 : Int, x40 = (Cv.int (Env.get (bnewn_sem.out [(.i x8)]) 3)) → (0 : Int) ≤ x40 → x40 ≤ (0 : Int) →
∀ x41 : Int, x41 = (Cv.int (Env.get (bnewn_sem.out [(.i x8)]) 4)) → (0 : Int) ≤ x41 → x41 ≤ (0 : Int) →
∀ x42 : Int, x42 = (Cv.int (Env.get (bnewn_sem.out [(.i x8)]) 5)) → (0 : Int) ≤ x42 → x42 ≤ (0 : Int) →
∀ x43 : Int, x43 = ((List.length (dec x24) : Int)) →
∃ (I4 : List Cv → Prop) (mu4 : List Cv → Nat), Fits [.i (some ((0), (30))), .i (some ((0), (10))), .i (some ((0), (25))), .i (some ((-1000000000), (1000000000))), .i (some ((0), (100000000))), .i (some ((-1000000), (1000000)))] [(.i (0 : Int)), (.i x37), (.i x38), (.i x39), (.i x40), (.i x41)] ∧ I4 [(.i (0 : Int)), (.i x37), (.i x38), (.i x39), (.i x40), (.i x41)] ∧ (
∀ x44 : Int, (0 : Int) ≤ x44 → x44 ≤ (30 : Int) → ∀ x45 : Int, (0 : Int) ≤ x45 → x45 ≤ (10 : Int) → ∀ x46 : Int, (0 : Int) ≤ x46 → x46 ≤ (25 : Int) → ∀ x47 : Int, (-1000000000 : Int) ≤ x47 → x47 ≤ (1000000000 : Int) → ∀ x48 : Int, (0 : Int) ≤ x48 → x48 ≤ (100000000 : Int) → ∀ x49 : Int, (-1000000 : Int) ≤ x49 → x49 ≤ (1000000 : Int) → I4 [.i x44, .i x45, .i x46, .i x47, .i x48, .i x49] →
((Cmp.den .lt x44 x43) = true → ∀ x50 : List Int, x50 = (List.getD (dec x24) (Int.toNat x44) []) →
(btaken_sem.pre [(.i x45), (.i x46), (.i x47), (.i x48), (.i x49), (.l (x50))]) ∧ (
∀ x51 : Int, x51 = (Cv.int (Env.get (btaken_sem.out [(.i x45), (.i x46), (.i x47), (.i x48), (.i x49), (.l (x50))]) 0)) → (1 : Int) ≤ x51 → x51 ≤ (10 : Int) →
∀ x52 : Int, x52 = (Cv.int (Env.get (btaken_sem.out [(.i x45), (.i x46), (.i x47), (.i x48), (.i x49), (.l (x50))]) 1)) → (1 : Int) ≤ x52 → x52 ≤ (25 : Int) →
∀ x53 : Int, x53 = (Cv.int (Env.get (btaken_sem.out [(.i x45), (.i x46), (.i x47), (.i x48), (.i x49), (.l (x50))]) 2)) → (-250000000 : Int) ≤ x53 → x53 ≤ (250000000 : Int) →
∀ x54 : Int, x54 = (Cv.int (Env.get (btaken_sem.out [(.i x45), (.i x46), (.i x47), (.i x48), (.i x49), (.l (x50))]) 3)) → (0 : Int) ≤ x54 → x54 ≤ (50000000 : Int) →
∀ x55 : Int, x55 = (Cv.int (Env.get (btaken_sem.out [(.i x45), (.i x46), (.i x47), (.i x48), (.i x49), (.l (x50))]) 4)) → (-1000000 : Int) ≤ x55 → x55 ≤ (1000000 : Int) →
∀ x56 : Int, x56 = (Cv.int (Env.get (btaken_sem.out [(.i x45), (.i x46), (.i x47), (.i x48), (.i x49), (.l (x50))]) 5)) → (0 : Int) ≤ x56 → x56 ≤ (0 : Int) →
∀ x57 : Int, x57 = (x44 + (1 : Int)) →
Fits [.i (some ((0), (30))), .i (some ((0), (10))), .i (some ((0), (25))), .i (some ((-1000000000), (1000000000))), .i (some ((0), (100000000))), .i (some ((-1000000), (1000000)))] [(.i x57), (.i x51), (.i x52), (.i x53), (.i x54), (.i x55)] ∧ I4 [(.i x57), (.i x51), (.i x52), (.i x53), (.i x54), (.i x55)] ∧ mu4 [(.i x57), (.i x51), (.i x52), (.i x53), (.i x54), (.i x55)] < mu4 [.i x44, .i x45, .i x46, .i x47, .i x48, .i x49])) ∧ ((Cmp.den .lt x44 x43) = false → (bnewn_sem.pre [(.i x8)]) ∧ (
∀ x50 : Int, x50 = (Cv.int (Env.get (bnewn_sem.out [(.i x8)]) 0)) → (1 : Int) ≤ x50 → x50 ≤ (10 : Int) →
∀ x51 : Int, x51 = (Cv.int (Env.get (bnewn_sem.out [(.i x8)]) 1)) → (0 : Int) ≤ x51 → x51 ≤ (0 : Int) →
∀ x52 : Int, x52 = (Cv.int (Env.get (bnewn_sem.out [(.i x8)]) 2)) → (0 : Int) ≤ x52 → x52 ≤ (0 : Int) →
∀ x53 : Int, x53 = (Cv.int (Env.get (bnewn_sem.out [(.i x8)]) 3)) → (0 : Int) ≤ x53 → x53 ≤ (0 : Int) →
∀ x54 : Int, x54 = (Cv.int (Env.get (bnewn_sem.out [(.i x8)]) 4)) → (0 : Int) ≤ x54 → x54 ≤ (0 : Int) →
∀ x55 : Int, x55 = (Cv.int (Env.get (bnewn_sem.out [(.i x8)]) 5)) → (0 : Int) ≤ x55 → x55 ≤ (0 : Int) →
∀ x56 : Int, x56 = ((List.length (dec x22) : Int)) →
∃ (I5 : List Cv → Prop) (mu5 : List Cv → Nat), Fits [.i (some ((0), (30))), .i (some ((0), (10))), .i (some ((0), (25))), .i (some ((-1000000000), (1000000000))), .i (some ((0), (100000000))), .i (some ((-1000000), (1000000)))] [(.i (0 : Int)), (.i x50), (.i x51), (.i x52), (.i x53), (.i x54)] ∧ I5 [(.i (0 : Int)), (.i x50), (.i x51), (.i x52), (.i x53), (.i x54)] ∧ (
∀ x57 : Int, (0 : Int) ≤ x57 → x57 ≤ (30 : Int) → ∀ x58 : Int, (0 : Int) ≤ x58 → x58 ≤ (10 : Int) → ∀ x59 : Int, (0 : Int) ≤ x59 → x59 ≤ (25 : Int) → ∀ x60 : Int, (-1000000000 : Int) ≤ x60 → x60 ≤ (1000000000 : Int) → ∀ x61 : Int, (0 : Int) ≤ x61 → x61 ≤ (100000000 : Int) → ∀ x62 : Int, (-1000000 : Int) ≤ x62 → x62 ≤ (1000000 : Int) → I5 [.i x57, .i x58, .i x59, .i x60, .i x61, .i x62] →
((Cmp.den .lt x57 x56) = true → ∀ x63 : List Int, x63 = (List.getD (dec x22) (Int.toNat x57) []) →
(btaken_sem.pre [(.i x58), (.i x59), (.i x60), (.i x61), (.i x62), (.l (x63))]) ∧ (
∀ x64 : Int, x64 = (Cv.int (Env.get (btaken_sem.out [(.i x58), (.i x59), (.i x60), (.i x61), (.i x62), (.l (x63))]) 0)) → (1 : Int) ≤ x64 → x64 ≤ (10 : Int) →
∀ x65 : Int, x65 = (Cv.int (Env.get (btaken_sem.out [(.i x58), (.i x59), (.i x60), (.i x61), (.i x62), (.l (x63))]) 1)) → (1 : Int) ≤ x65 → x65 ≤ (25 : Int) →
∀ x66 : Int, x66 = (Cv.int (Env.get (btaken_sem.out [(.i x58), (.i x59), (.i x60), (.i x61), (.i x62), (.l (x63))]) 2)) → (-250000000 : Int) ≤ x66 → x66 ≤ (250000000 : Int) →
∀ x67 : Int, x67 = (Cv.int (Env.get (btaken_sem.out [(.i x58), (.i x59), (.i x60), (.i x61), (.i x62), (.l (x63))]) 3)) → (0 : Int) ≤ x67 → x67 ≤ (50000000 : Int) →
∀ x68 : Int, x68 = (Cv.int (Env.get (btaken_sem.out [(.i x58), (.i x59), (.i x60), (.i x61), (.i x62), (.l (x63))]) 4)) → (-1000000 : Int) ≤ x68 → x68 ≤ (1000000 : Int) →
∀ x69 : Int, x69 = (Cv.int (Env.get (btaken_sem.out [(.i x58), (.i x59), (.i x60), (.i x61), (.i x62), (.l (x63))]) 5)) → (0 : Int) ≤ x69 → x69 ≤ (0 : Int) →
∀ x70 : Int, x70 = (x57 + (1 : Int)) →
Fits [.i (some ((0), (30))), .i (some ((0), (10))), .i (some ((0), (25))), .i (some ((-1000000000), (1000000000))), .i (some ((0), (100000000))), .i (some ((-1000000), (1000000)))] [(.i x70), (.i x64), (.i x65), (.i x66), (.i x67), (.i x68)] ∧ I5 [(.i x70), (.i x64), (.i x65), (.i x66), (.i x67), (.i x68)] ∧ mu5 [(.i x70), (.i x64), (.i x65), (.i x66), (.i x67), (.i x68)] < mu5 [.i x57, .i x58, .i x59, .i x60, .i x61, .i x62])) ∧ ((Cmp.den .lt x57 x56) = false → ((!(Cmp.den .eq x35 x48)) = true → R (Value.bool false)) ∧ ((!(Cmp.den .eq x35 x48)) = false → ((!(Cmp.den .eq x35 x61)) = true → R (Value.bool false)) ∧ ((!(Cmp.den .eq x35 x61)) = false → ((!(Cmp.den .eq x34 x60)) = true → R (Value.bool false)) ∧ ((!(Cmp.den .eq x34 x60)) = false → ((!(Cmp.den .eq x33 x59)) = true → R (Value.bool false)) ∧ ((!(Cmp.den .eq x33 x59)) = false → (bal_sem.pre []) ∧ (
((!(Cv.bool (Env.get (bal_sem.out []) 0))) = true → R (Value.bool false)) ∧ ((!(Cv.bool (Env.get (bal_sem.out []) 0))) = false → (bpoint_sem.pre [(.i x32), (.i x33), (.i x34), (.i x35), (.i x36), (.i x16)]) ∧ (
∀ x64 : Int, x64 = (Cv.int (Env.get (bpoint_sem.out [(.i x32), (.i x33), (.i x34), (.i x35), (.i x36), (.i x16)]) 0)) → (-9223372036854775808 : Int) ≤ x64 → x64 ≤ (9223372036854775807 : Int) →
∀ x65 : Int, x65 = (Cv.int (Env.get (bpoint_sem.out [(.i x32), (.i x33), (.i x34), (.i x35), (.i x36), (.i x16)]) 1)) → (-9223372036854775808 : Int) ≤ x65 → x65 ≤ (9223372036854775807 : Int) →
∀ x66 : Int, x66 = (Cv.int (Env.get (bpoint_sem.out [(.i x32), (.i x33), (.i x34), (.i x35), (.i x36), (.i x16)]) 2)) → (-9223372036854775808 : Int) ≤ x66 → x66 ≤ (9223372036854775807 : Int) →
∀ x67 : Int, x67 = (Cv.int (Env.get (bpoint_sem.out [(.i x32), (.i x33), (.i x34), (.i x35), (.i x36), (.i x16)]) 3)) → (0 : Int) ≤ x67 → x67 ≤ (18446744073709551615 : Int) →
∀ x68 : Int, x68 = (Cv.int (Env.get (bpoint_sem.out [(.i x32), (.i x33), (.i x34), (.i x35), (.i x36), (.i x16)]) 4)) → (0 : Int) ≤ x68 → x68 ≤ (18446744073709551615 : Int) →
∀ x69 : Int, x69 = (Cv.int (Env.get (bpoint_sem.out [(.i x32), (.i x33), (.i x34), (.i x35), (.i x36), (.i x16)]) 5)) → (-9223372036854775808 : Int) ≤ x69 → x69 ≤ (9223372036854775807 : Int) →
∀ x70 : Int, x70 = (x13 * x8) →
∀ x71 : Int, x71 = (x16 + x70) →
(bpoint_sem.pre [(.i x45), (.i x46), (.i x47), (.i x48), (.i x49), (.i x71)]) ∧ (
∀ x72 : Int, x72 = (Cv.int (Env.get (bpoint_sem.out [(.i x45), (.i x46), (.i x47), (.i x48), (.i x49), (.i x71)]) 0)) → (-9223372036854775808 : Int) ≤ x72 → x72 ≤ (9223372036854775807 : Int) →
∀ x73 : Int, x73 = (Cv.int (Env.get (bpoint_sem.out [(.i x45), (.i x46), (.i x47), (.i x48), (.i x49), (.i x71)]) 1)) → (-9223372036854775808 : Int) ≤ x73 → x73 ≤ (9223372036854775807 : Int) →
∀ x74 : Int, x74 = (Cv.int (Env.get (bpoint_sem.out [(.i x45), (.i x46), (.i x47), (.i x48), (.i x49), (.i x71)]) 2)) → (-9223372036854775808 : Int) ≤ x74 → x74 ≤ (9223372036854775807 : Int) →
∀ x75 : Int, x75 = (Cv.int (Env.get (bpoint_sem.out [(.i x45), (.i x46), (.i x47), (.i x48), (.i x49), (.i x71)]) 3)) → (0 : Int) ≤ x75 → x75 ≤ (18446744073709551615 : Int) →
∀ x76 : Int, x76 = (Cv.int (Env.get (bpoint_sem.out [(.i x45), (.i x46), (.i x47), (.i x48), (.i x49), (.i x71)]) 4)) → (0 : Int) ≤ x76 → x76 ≤ (18446744073709551615 : Int) →
∀ x77 : Int, x77 = (Cv.int (Env.get (bpoint_sem.out [(.i x45), (.i x46), (.i x47), (.i x48), (.i x49), (.i x71)]) 5)) → (-9223372036854775808 : Int) ≤ x77 → x77 ≤ (9223372036854775807 : Int) →
(bwide_sem.pre [(.i x32), (.i x33), (.i x34), (.i x35), (.i x36), (.i x19)]) ∧ (
∀ x78 : Int, x78 = (Cv.int (Env.get (bwide_sem.out [(.i x32), (.i x33), (.i x34), (.i x35), (.i x36), (.i x19)]) 0)) → (-9223372036854775808 : Int) ≤ x78 → x78 ≤ (9223372036854775807 : Int) →
∀ x79 : Int, x79 = (Cv.int (Env.get (bwide_sem.out [(.i x32), (.i x33), (.i x34), (.i x35), (.i x36), (.i x19)]) 1)) → (-9223372036854775808 : Int) ≤ x79 → x79 ≤ (9223372036854775807 : Int) →
(bwide_sem.pre [(.i x45), (.i x46), (.i x47), (.i x48), (.i x49), (.i x19)]) ∧ (
∀ x80 : Int, x80 = (Cv.int (Env.get (bwide_sem.out [(.i x45), (.i x46), (.i x47), (.i x48), (.i x49), (.i x19)]) 0)) → (-9223372036854775808 : Int) ≤ x80 → x80 ≤ (9223372036854775807 : Int) →
∀ x81 : Int, x81 = (Cv.int (Env.get (bwide_sem.out [(.i x45), (.i x46), (.i x47), (.i x48), (.i x49), (.i x19)]) 1)) → (-9223372036854775808 : Int) ≤ x81 → x81 ≤ (9223372036854775807 : Int) →
((Cmp.den .eq x69 (0 : Int)) = true → ((Cmp.den .eq x77 (0 : Int)) = true → ((Cmp.den .eq x79 (0 : Int)) = true → ((Cmp.den .eq x81 (0 : Int)) = true → ((Cmp.den .eq x66 x74) = true → (((Cmp.den .eq x67 x75) && (Cmp.den .eq x68 x76)) = true → ((Cmp.den .eq x65 x73) = true → ∀ x82 : Int, x82 = (IntKind.i64.wrap (x13 * x65)) →
∀ x83 : Int, x83 = (IntKind.i64.wrap (x64 + x82)) →
((Cmp.den .eq x72 x83) = true → R (Value.bool (Cmp.den .eq x78 x80))) ∧ ((Cmp.den .eq x72 x83) = false → R (Value.bool false))) ∧ ((Cmp.den .eq x65 x73) = false → R (Value.bool false))) ∧ (((Cmp.den .eq x67 x75) && (Cmp.den .eq x68 x76)) = false → R (Value.bool false))) ∧ ((Cmp.den .eq x66 x74) = false → R (Value.bool false))) ∧ ((Cmp.den .eq x81 (0 : Int)) = false → R (Value.bool false))) ∧ ((Cmp.den .eq x79 (0 : Int)) = false → R (Value.bool false))) ∧ ((Cmp.den .eq x77 (0 : Int)) = false → R (Value.bool false))) ∧ ((Cmp.den .eq x69 (0 : Int)) = false → R (Value.bool false))))))))))))))))))))))))))) ∧ ((Cmp.den .le x8 x11) = false → ∀ x12 : Int, x12 = (Int.tmod x2 (400000 : Int)) →
∀ x13 : Int, x13 = (x8 * (500000 : Int)) →
∀ x14 : Int, x14 = (x13 + (1 : Int)) →
∀ x15 : Int, x15 = (Int.tmod x3 x14) →
∀ x16 : Int, x16 = (Int.tmod x4 (1000001 : Int)) →
∀ x17 : Int, x17 = (x16 + (1000001 : Int)) →
∀ x18 : Int, x18 = (x17 % (1000001 : Int)) →
∀ x19 : Int, x19 = ((List.length (dec x9) : Int)) →
∀ x20 : Int, x20 = (x19 - (1 : Int)) →
∃ (I1 : List Cv → Prop) (mu1 : List Cv → Nat), Fits [.i (some ((-1), (30))), .l] [(.i x20), (.l (([] : List Int)))] ∧ I1 [(.i x20), (.l (([] : List Int)))] ∧ (
∀ x21 : Int, (-1 : Int) ≤ x21 → x21 ≤ (30 : Int) → ∀ x22 : List Int, InI x22 → I1 [.i x21, .l x22] →
((Cmp.den .le (0 : Int) x21) = true → ((Cmp.den .lt x21 x19) = true → ∀ x23 : List Int, x23 = (List.getD (dec x9) (Int.toNat x21) []) →
∀ x24 : Int, x24 = ((List.length x23 : Int)) →
∀ x25 : Int, x25 = (x24 - (1 : Int)) →
∃ (I2 : List Cv → Prop) (mu2 : List Cv → Nat), Fits [.i (some ((-1), (20))), .l] [(.i x25), (.l (([] : List Int)))] ∧ I2 [(.i x25), (.l (([] : List Int)))] ∧ (
∀ x26 : Int, (-1 : Int) ≤ x26 → x26 ≤ (20 : Int) → ∀ x27 : List Int, InI x27 → I2 [.i x26, .l x27] →
((Cmp.den .le (0 : Int) x26) = true → ((Cmp.den .lt x21 x19) = true → ∀ x28 : List Int, x28 = (List.getD (dec x9) (Int.toNat x21) []) →
∀ x29 : Int, x29 = ((List.length x28 : Int)) →
((Cmp.den .lt x26 x29) = true → ∀ x30 : Int, x30 = (List.getD x28 (Int.toNat x26) 0) →
∀ x31 : Int, x31 = ((List.length x27 : Int)) →
((Cmp.den .le x31 (100000 : Int)) = true → ∀ x32 : List Int, x32 = (x27 ++ ([x30] : List Int)) →
∀ x33 : Int, x33 = (x26 - (1 : Int)) →
Fits [.i (some ((-1), (20))), .l] [(.i x33), (.l (x32))] ∧ I2 [(.i x33), (.l (x32))] ∧ mu2 [(.i x33), (.l (x32))] < mu2 [.i x26, .l x27]) ∧ ((Cmp.den .le x31 (100000 : Int)) = false → False)) ∧ ((Cmp.den .lt x26 x29) = false → False)) ∧ ((Cmp.den .lt x21 x19) = false → False)) ∧ ((Cmp.den .le (0 : Int) x26) = false → ∀ x28 : List Int, x28 = ((List.length x27 : Int) :: x27) →
∀ x29 : Int, x29 = ((List.length (dec x28) : Int)) →
∀ x30 : Int, x30 = ((List.length (dec x22) : Int)) →
((Cmp.den .le x30 (100000 : Int)) = true → ∀ x31 : List Int, x31 = (x22 ++ x28) →
∀ x32 : Int, x32 = (x21 - (1 : Int)) →
Fits [.i (some ((-1), (30))), .l] [(.i x32), (.l (x31))] ∧ I1 [(.i x32), (.l (x31))] ∧ mu1 [(.i x32), (.l (x31))] < mu1 [.i x21, .l x22]) ∧ ((Cmp.den .le x30 (100000 : Int)) = false → False)))) ∧ ((Cmp.den .lt x21 x19) = false → False)) ∧ ((Cmp.den .le (0 : Int) x21) = false → ∃ (I2 : List Cv → Prop) (mu2 : List Cv → Nat), Fits [.i (some ((0), (30))), .l] [(.i (0 : Int)), (.l (([] : List Int)))] ∧ I2 [(.i (0 : Int)), (.l (([] : List Int)))] ∧ (
∀ x23 : Int, (0 : Int) ≤ x23 → x23 ≤ (30 : Int) → ∀ x24 : List Int, InI x24 → I2 [.i x23, .l x24] →
((Cmp.den .lt x23 x19) = true → ∀ x25 : List Int, x25 = (List.getD (dec x9) (Int.toNat x23) []) →
∀ x26 : Int, x26 = ((List.length x25 : Int)) →
∃ (I3 : List Cv → Prop) (mu3 : List Cv → Nat), Fits [.i (some ((0), (20))), .l] [(.i (0 : Int)), (.l (([] : List Int)))] ∧ I3 [(.i (0 : Int)), (.l (([] : List Int)))] ∧ (
∀ x27 : Int, (0 : Int) ≤ x27 → x27 ≤ (20 : Int) → ∀ x28 : List Int, InI x28 → I3 [.i x27, .l x28] →
((Cmp.den .lt x27 x26) = true → ∀ x29 : Int, x29 = (List.getD x25 (Int.toNat x27) 0) →
∀ x30 : Int, x30 = (IntKind.i64.wrap (x29 + x12)) →
∀ x31 : Int, x31 = ((List.length x28 : Int)) →
((Cmp.den .le x31 (100000 : Int)) = true → ∀ x32 : List Int, x32 = (x28 ++ ([x30] : List Int)) →
∀ x33 : Int, x33 = (x27 + (1 : Int)) →
Fits [.i (some ((0), (20))), .l] [(.i x33), (.l (x32))] ∧ I3 [(.i x33), (.l (x32))] ∧ mu3 [(.i x33), (.l (x32))] < mu3 [.i x27, .l x28]) ∧ ((Cmp.den .le x31 (100000 : Int)) = false → False)) ∧ ((Cmp.den .lt x27 x26) = false → ∀ x29 : List Int, x29 = ((List.length x28 : Int) :: x28) →
∀ x30 : Int, x30 = ((List.length (dec x29) : Int)) →
∀ x31 : Int, x31 = ((List.length (dec x24) : Int)) →
((Cmp.den .le x31 (100000 : Int)) = true → ∀ x32 : List Int, x32 = (x24 ++ x29) →
∀ x33 : Int, x33 = (x23 + (1 : Int)) →
Fits [.i (some ((0), (30))), .l] [(.i x33), (.l (x32))] ∧ I2 [(.i x33), (.l (x32))] ∧ mu2 [(.i x33), (.l (x32))] < mu2 [.i x23, .l x24]) ∧ ((Cmp.den .le x31 (100000 : Int)) = false → False)))) ∧ ((Cmp.den .lt x23 x19) = false → (bnewn_sem.pre [(.i x8)]) ∧ (
∀ x25 : Int, x25 = (Cv.int (Env.get (bnewn_sem.out [(.i x8)]) 0)) → (1 : Int) ≤ x25 → x25 ≤ (10 : Int) →
∀ x26 : Int, x26 = (Cv.int (Env.get (bnewn_sem.out [(.i x8)]) 1)) → (0 : Int) ≤ x26 → x26 ≤ (0 : Int) →
∀ x27 : Int, x27 = (Cv.int (Env.get (bnewn_sem.out [(.i x8)]) 2)) → (0 : Int) ≤ x27 → x27 ≤ (0 : Int) →
∀ x28 : Int, x28 = (Cv.int (Env.get (bnewn_sem.out [(.i x8)]) 3)) → (0 : Int) ≤ x28 → x28 ≤ (0 : Int) →
∀ x29 : Int, x29 = (Cv.int (Env.get (bnewn_sem.out [(.i x8)]) 4)) → (0 : Int) ≤ x29 → x29 ≤ (0 : Int) →
∀ x30 : Int, x30 = (Cv.int (Env.get (bnewn_sem.out [(.i x8)]) 5)) → (0 : Int) ≤ x30 → x30 ≤ (0 : Int) →
∃ (I3 : List Cv → Prop) (mu3 : List Cv → Nat), Fits [.i (some ((0), (30))), .i (some ((0), (10))), .i (some ((0), (25))), .i (some ((-1000000000), (1000000000))), .i (some ((0), (100000000))), .i (some ((-1000000), (1000000)))] [(.i (0 : Int)), (.i x25), (.i x26), (.i x27), (.i x28), (.i x29)] ∧ I3 [(.i (0 : Int)), (.i x25), (.i x26), (.i x27), (.i x28), (.i x29)] ∧ (
∀ x31 : Int, (0 : Int) ≤ x31 → x31 ≤ (30 : Int) → ∀ x32 : Int, (0 : Int) ≤ x32 → x32 ≤ (10 : Int) → ∀ x33 : Int, (0 : Int) ≤ x33 → x33 ≤ (25 : Int) → ∀ x34 : Int, (-1000000000 : Int) ≤ x34 → x34 ≤ (1000000000 : Int) → ∀ x35 : Int, (0 : Int) ≤ x35 → x35 ≤ (100000000 : Int) → ∀ x36 : Int, (-1000000 : Int) ≤ x36 → x36 ≤ (1000000 : Int) → I3 [.i x31, .i x32, .i x33, .i x34, .i x35, .i x36] →
((Cmp.den .lt x31 x19) = true → ∀ x37 : List Int, x37 = (List.getD (dec x9) (Int.toNat x31) []) →
(btaken_sem.pre [(.i x32), (.i x33), (.i x34), (.i x35), (.i x36), (.l (x37))]) ∧ (
∀ x38 : Int, x38 = (Cv.int (Env.get (btaken_sem.out [(.i x32), (.i x33), (.i x34), (.i x35), (.i x36), (.l (x37))]) 0)) → (1 : Int) ≤ x38 → x38 ≤ (10 : Int) →
∀ x39 : Int, x39 = (Cv.int (Env.get (btaken_sem.out [(.i x32), (.i x33), (.i x34), (.i x35), (.i x36), (.l (x37))]) 1)) → (1 : Int) ≤ x39 → x39 ≤ (25 : Int) →
∀ x40 : Int, x40 = (Cv.int (Env.get (btaken_sem.out [(.i x32), (.i x33), (.i x34), (.i x35), (.i x36), (.l (x37))]) 2)) → (-250000000 : Int) ≤ x40 → x40 ≤ (250000000 : Int) →
∀ x41 : Int, x41 = (Cv.int (Env.get (btaken_sem.out [(.i x32), (.i x33), (.i x34), (.i x35), (.i x36), (.l (x37))]) 3)) → (0 : Int) ≤ x41 → x41 ≤ (50000000 : Int) →
∀ x42 : Int, x42 = (Cv.int (Env.get (btaken_sem.out [(.i x32), (.i x33), (.i x34), (.i x35), (.i x36), (.l (x37))]) 4)) → (-1000000 : Int) ≤ x42 → x42 ≤ (1000000 : Int) →
∀ x43 : Int, x43 = (Cv.int (Env.get (btaken_sem.out [(.i x32), (.i x33), (.i x34), (.i x35), (.i x36), (.l (x37))]) 5)) → (0 : Int) ≤ x43 → x43 ≤ (0 : Int) →
∀ x44 : Int, x44 = (x31 + (1 : Int)) →
Fits [.i (some ((0), (30))), .i (some ((0), (10))), .i (some ((0), (25))), .i (some ((-1000000000), (1000000000))), .i (some ((0), (100000000))), .i (some ((-1000000), (1000000)))] [(.i x44), (.i x38), (.i x39), (.i x40), (.i x41), (.i x42)] ∧ I3 [(.i x44), (.i x38), (.i x39), (.i x40), (.i x41), (.i x42)] ∧ mu3 [(.i x44), (.i x38), (.i x39), (.i x40), (.i x41), (.i x42)] < mu3 [.i x31, .i x32, .i x33, .i x34, .i x35, .i x36])) ∧ ((Cmp.den .lt x31 x19) = false → (bnewn_sem.pre [(.i x8)]) ∧ (
∀ x37 : Int, x37 = (Cv.int (Env.get (bnewn_sem.out [(.i x8)]) 0)) → (1 : Int) ≤ x37 → x37 ≤ (10 : Int) →
∀ x38 : Int, x38 = (Cv.int (Env.get (bnewn_sem.out [(.i x8)]) 1)) → (0 : Int) ≤ x38 → x38 ≤ (0 : Int) →
∀ x39 : Int, x39 = (Cv.int (Env.get (bnewn_sem.out [(.i x8)]) 2)) → (0 : Int) ≤ x39 → x39 ≤ (0 : Int) →
∀ x40 : Int, x40 = (Cv.int (Env.get (bnewn_sem.out [(.i x8)]) 3)) → (0 : Int) ≤ x40 → x40 ≤ (0 : Int) →
∀ x41 : Int, x41 = (Cv.int (Env.get (bnewn_sem.out [(.i x8)]) 4)) → (0 : Int) ≤ x41 → x41 ≤ (0 : Int) →
∀ x42 : Int, x42 = (Cv.int (Env.get (bnewn_sem.out [(.i x8)]) 5)) → (0 : Int) ≤ x42 → x42 ≤ (0 : Int) →
∀ x43 : Int, x43 = ((List.length (dec x24) : Int)) →
∃ (I4 : List Cv → Prop) (mu4 : List Cv → Nat), Fits [.i (some ((0), (30))), .i (some ((0), (10))), .i (some ((0), (25))), .i (some ((-1000000000), (1000000000))), .i (some ((0), (100000000))), .i (some ((-1000000), (1000000)))] [(.i (0 : Int)), (.i x37), (.i x38), (.i x39), (.i x40), (.i x41)] ∧ I4 [(.i (0 : Int)), (.i x37), (.i x38), (.i x39), (.i x40), (.i x41)] ∧ (
∀ x44 : Int, (0 : Int) ≤ x44 → x44 ≤ (30 : Int) → ∀ x45 : Int, (0 : Int) ≤ x45 → x45 ≤ (10 : Int) → ∀ x46 : Int, (0 : Int) ≤ x46 → x46 ≤ (25 : Int) → ∀ x47 : Int, (-1000000000 : Int) ≤ x47 → x47 ≤ (1000000000 : Int) → ∀ x48 : Int, (0 : Int) ≤ x48 → x48 ≤ (100000000 : Int) → ∀ x49 : Int, (-1000000 : Int) ≤ x49 → x49 ≤ (1000000 : Int) → I4 [.i x44, .i x45, .i x46, .i x47, .i x48, .i x49] →
((Cmp.den .lt x44 x43) = true → ∀ x50 : List Int, x50 = (List.getD (dec x24) (Int.toNat x44) []) →
(btaken_sem.pre [(.i x45), (.i x46), (.i x47), (.i x48), (.i x49), (.l (x50))]) ∧ (
∀ x51 : Int, x51 = (Cv.int (Env.get (btaken_sem.out [(.i x45), (.i x46), (.i x47), (.i x48), (.i x49), (.l (x50))]) 0)) → (1 : Int) ≤ x51 → x51 ≤ (10 : Int) →
∀ x52 : Int, x52 = (Cv.int (Env.get (btaken_sem.out [(.i x45), (.i x46), (.i x47), (.i x48), (.i x49), (.l (x50))]) 1)) → (1 : Int) ≤ x52 → x52 ≤ (25 : Int) →
∀ x53 : Int, x53 = (Cv.int (Env.get (btaken_sem.out [(.i x45), (.i x46), (.i x47), (.i x48), (.i x49), (.l (x50))]) 2)) → (-250000000 : Int) ≤ x53 → x53 ≤ (250000000 : Int) →
∀ x54 : Int, x54 = (Cv.int (Env.get (btaken_sem.out [(.i x45), (.i x46), (.i x47), (.i x48), (.i x49), (.l (x50))]) 3)) → (0 : Int) ≤ x54 → x54 ≤ (50000000 : Int) →
∀ x55 : Int, x55 = (Cv.int (Env.get (btaken_sem.out [(.i x45), (.i x46), (.i x47), (.i x48), (.i x49), (.l (x50))]) 4)) → (-1000000 : Int) ≤ x55 → x55 ≤ (1000000 : Int) →
∀ x56 : Int, x56 = (Cv.int (Env.get (btaken_sem.out [(.i x45), (.i x46), (.i x47), (.i x48), (.i x49), (.l (x50))]) 5)) → (0 : Int) ≤ x56 → x56 ≤ (0 : Int) →
∀ x57 : Int, x57 = (x44 + (1 : Int)) →
Fits [.i (some ((0), (30))), .i (some ((0), (10))), .i (some ((0), (25))), .i (some ((-1000000000), (1000000000))), .i (some ((0), (100000000))), .i (some ((-1000000), (1000000)))] [(.i x57), (.i x51), (.i x52), (.i x53), (.i x54), (.i x55)] ∧ I4 [(.i x57), (.i x51), (.i x52), (.i x53), (.i x54), (.i x55)] ∧ mu4 [(.i x57), (.i x51), (.i x52), (.i x53), (.i x54), (.i x55)] < mu4 [.i x44, .i x45, .i x46, .i x47, .i x48, .i x49])) ∧ ((Cmp.den .lt x44 x43) = false → (bnewn_sem.pre [(.i x8)]) ∧ (
∀ x50 : Int, x50 = (Cv.int (Env.get (bnewn_sem.out [(.i x8)]) 0)) → (1 : Int) ≤ x50 → x50 ≤ (10 : Int) →
∀ x51 : Int, x51 = (Cv.int (Env.get (bnewn_sem.out [(.i x8)]) 1)) → (0 : Int) ≤ x51 → x51 ≤ (0 : Int) →
∀ x52 : Int, x52 = (Cv.int (Env.get (bnewn_sem.out [(.i x8)]) 2)) → (0 : Int) ≤ x52 → x52 ≤ (0 : Int) →
∀ x53 : Int, x53 = (Cv.int (Env.get (bnewn_sem.out [(.i x8)]) 3)) → (0 : Int) ≤ x53 → x53 ≤ (0 : Int) →
∀ x54 : Int, x54 = (Cv.int (Env.get (bnewn_sem.out [(.i x8)]) 4)) → (0 : Int) ≤ x54 → x54 ≤ (0 : Int) →
∀ x55 : Int, x55 = (Cv.int (Env.get (bnewn_sem.out [(.i x8)]) 5)) → (0 : Int) ≤ x55 → x55 ≤ (0 : Int) →
∀ x56 : Int, x56 = ((List.length (dec x22) : Int)) →
∃ (I5 : List Cv → Prop) (mu5 : List Cv → Nat), Fits [.i (some ((0), (30))), .i (some ((0), (10))), .i (some ((0), (25))), .i (some ((-1000000000), (1000000000))), .i (some ((0), (100000000))), .i (some ((-1000000), (1000000)))] [(.i (0 : Int)), (.i x50), (.i x51), (.i x52), (.i x53), (.i x54)] ∧ I5 [(.i (0 : Int)), (.i x50), (.i x51), (.i x52), (.i x53), (.i x54)] ∧ (
∀ x57 : Int, (0 : Int) ≤ x57 → x57 ≤ (30 : Int) → ∀ x58 : Int, (0 : Int) ≤ x58 → x58 ≤ (10 : Int) → ∀ x59 : Int, (0 : Int) ≤ x59 → x59 ≤ (25 : Int) → ∀ x60 : Int, (-1000000000 : Int) ≤ x60 → x60 ≤ (1000000000 : Int) → ∀ x61 : Int, (0 : Int) ≤ x61 → x61 ≤ (100000000 : Int) → ∀ x62 : Int, (-1000000 : Int) ≤ x62 → x62 ≤ (1000000 : Int) → I5 [.i x57, .i x58, .i x59, .i x60, .i x61, .i x62] →
((Cmp.den .lt x57 x56) = true → ∀ x63 : List Int, x63 = (List.getD (dec x22) (Int.toNat x57) []) →
(btaken_sem.pre [(.i x58), (.i x59), (.i x60), (.i x61), (.i x62), (.l (x63))]) ∧ (
∀ x64 : Int, x64 = (Cv.int (Env.get (btaken_sem.out [(.i x58), (.i x59), (.i x60), (.i x61), (.i x62), (.l (x63))]) 0)) → (1 : Int) ≤ x64 → x64 ≤ (10 : Int) →
∀ x65 : Int, x65 = (Cv.int (Env.get (btaken_sem.out [(.i x58), (.i x59), (.i x60), (.i x61), (.i x62), (.l (x63))]) 1)) → (1 : Int) ≤ x65 → x65 ≤ (25 : Int) →
∀ x66 : Int, x66 = (Cv.int (Env.get (btaken_sem.out [(.i x58), (.i x59), (.i x60), (.i x61), (.i x62), (.l (x63))]) 2)) → (-250000000 : Int) ≤ x66 → x66 ≤ (250000000 : Int) →
∀ x67 : Int, x67 = (Cv.int (Env.get (btaken_sem.out [(.i x58), (.i x59), (.i x60), (.i x61), (.i x62), (.l (x63))]) 3)) → (0 : Int) ≤ x67 → x67 ≤ (50000000 : Int) →
∀ x68 : Int, x68 = (Cv.int (Env.get (btaken_sem.out [(.i x58), (.i x59), (.i x60), (.i x61), (.i x62), (.l (x63))]) 4)) → (-1000000 : Int) ≤ x68 → x68 ≤ (1000000 : Int) →
∀ x69 : Int, x69 = (Cv.int (Env.get (btaken_sem.out [(.i x58), (.i x59), (.i x60), (.i x61), (.i x62), (.l (x63))]) 5)) → (0 : Int) ≤ x69 → x69 ≤ (0 : Int) →
∀ x70 : Int, x70 = (x57 + (1 : Int)) →
Fits [.i (some ((0), (30))), .i (some ((0), (10))), .i (some ((0), (25))), .i (some ((-1000000000), (1000000000))), .i (some ((0), (100000000))), .i (some ((-1000000), (1000000)))] [(.i x70), (.i x64), (.i x65), (.i x66), (.i x67), (.i x68)] ∧ I5 [(.i x70), (.i x64), (.i x65), (.i x66), (.i x67), (.i x68)] ∧ mu5 [(.i x70), (.i x64), (.i x65), (.i x66), (.i x67), (.i x68)] < mu5 [.i x57, .i x58, .i x59, .i x60, .i x61, .i x62])) ∧ ((Cmp.den .lt x57 x56) = false → ((!(Cmp.den .eq x35 x48)) = true → R (Value.bool false)) ∧ ((!(Cmp.den .eq x35 x48)) = false → ((!(Cmp.den .eq x35 x61)) = true → R (Value.bool false)) ∧ ((!(Cmp.den .eq x35 x61)) = false → ((!(Cmp.den .eq x34 x60)) = true → R (Value.bool false)) ∧ ((!(Cmp.den .eq x34 x60)) = false → ((!(Cmp.den .eq x33 x59)) = true → R (Value.bool false)) ∧ ((!(Cmp.den .eq x33 x59)) = false → (bal_sem.pre []) ∧ (
((!(Cv.bool (Env.get (bal_sem.out []) 0))) = true → R (Value.bool false)) ∧ ((!(Cv.bool (Env.get (bal_sem.out []) 0))) = false → (bpoint_sem.pre [(.i x32), (.i x33), (.i x34), (.i x35), (.i x36), (.i x15)]) ∧ (
∀ x64 : Int, x64 = (Cv.int (Env.get (bpoint_sem.out [(.i x32), (.i x33), (.i x34), (.i x35), (.i x36), (.i x15)]) 0)) → (-9223372036854775808 : Int) ≤ x64 → x64 ≤ (9223372036854775807 : Int) →
∀ x65 : Int, x65 = (Cv.int (Env.get (bpoint_sem.out [(.i x32), (.i x33), (.i x34), (.i x35), (.i x36), (.i x15)]) 1)) → (-9223372036854775808 : Int) ≤ x65 → x65 ≤ (9223372036854775807 : Int) →
∀ x66 : Int, x66 = (Cv.int (Env.get (bpoint_sem.out [(.i x32), (.i x33), (.i x34), (.i x35), (.i x36), (.i x15)]) 2)) → (-9223372036854775808 : Int) ≤ x66 → x66 ≤ (9223372036854775807 : Int) →
∀ x67 : Int, x67 = (Cv.int (Env.get (bpoint_sem.out [(.i x32), (.i x33), (.i x34), (.i x35), (.i x36), (.i x15)]) 3)) → (0 : Int) ≤ x67 → x67 ≤ (18446744073709551615 : Int) →
∀ x68 : Int, x68 = (Cv.int (Env.get (bpoint_sem.out [(.i x32), (.i x33), (.i x34), (.i x35), (.i x36), (.i x15)]) 4)) → (0 : Int) ≤ x68 → x68 ≤ (18446744073709551615 : Int) →
∀ x69 : Int, x69 = (Cv.int (Env.get (bpoint_sem.out [(.i x32), (.i x33), (.i x34), (.i x35), (.i x36), (.i x15)]) 5)) → (-9223372036854775808 : Int) ≤ x69 → x69 ≤ (9223372036854775807 : Int) →
∀ x70 : Int, x70 = (x12 * x8) →
∀ x71 : Int, x71 = (x15 + x70) →
(bpoint_sem.pre [(.i x45), (.i x46), (.i x47), (.i x48), (.i x49), (.i x71)]) ∧ (
∀ x72 : Int, x72 = (Cv.int (Env.get (bpoint_sem.out [(.i x45), (.i x46), (.i x47), (.i x48), (.i x49), (.i x71)]) 0)) → (-9223372036854775808 : Int) ≤ x72 → x72 ≤ (9223372036854775807 : Int) →
∀ x73 : Int, x73 = (Cv.int (Env.get (bpoint_sem.out [(.i x45), (.i x46), (.i x47), (.i x48), (.i x49), (.i x71)]) 1)) → (-9223372036854775808 : Int) ≤ x73 → x73 ≤ (9223372036854775807 : Int) →
∀ x74 : Int, x74 = (Cv.int (Env.get (bpoint_sem.out [(.i x45), (.i x46), (.i x47), (.i x48), (.i x49), (.i x71)]) 2)) → (-9223372036854775808 : Int) ≤ x74 → x74 ≤ (9223372036854775807 : Int) →
∀ x75 : Int, x75 = (Cv.int (Env.get (bpoint_sem.out [(.i x45), (.i x46), (.i x47), (.i x48), (.i x49), (.i x71)]) 3)) → (0 : Int) ≤ x75 → x75 ≤ (18446744073709551615 : Int) →
∀ x76 : Int, x76 = (Cv.int (Env.get (bpoint_sem.out [(.i x45), (.i x46), (.i x47), (.i x48), (.i x49), (.i x71)]) 4)) → (0 : Int) ≤ x76 → x76 ≤ (18446744073709551615 : Int) →
∀ x77 : Int, x77 = (Cv.int (Env.get (bpoint_sem.out [(.i x45), (.i x46), (.i x47), (.i x48), (.i x49), (.i x71)]) 5)) → (-9223372036854775808 : Int) ≤ x77 → x77 ≤ (9223372036854775807 : Int) →
(bwide_sem.pre [(.i x32), (.i x33), (.i x34), (.i x35), (.i x36), (.i x18)]) ∧ (
∀ x78 : Int, x78 = (Cv.int (Env.get (bwide_sem.out [(.i x32), (.i x33), (.i x34), (.i x35), (.i x36), (.i x18)]) 0)) → (-9223372036854775808 : Int) ≤ x78 → x78 ≤ (9223372036854775807 : Int) →
∀ x79 : Int, x79 = (Cv.int (Env.get (bwide_sem.out [(.i x32), (.i x33), (.i x34), (.i x35), (.i x36), (.i x18)]) 1)) → (-9223372036854775808 : Int) ≤ x79 → x79 ≤ (9223372036854775807 : Int) →
(bwide_sem.pre [(.i x45), (.i x46), (.i x47), (.i x48), (.i x49), (.i x18)]) ∧ (
∀ x80 : Int, x80 = (Cv.int (Env.get (bwide_sem.out [(.i x45), (.i x46), (.i x47), (.i x48), (.i x49), (.i x18)]) 0)) → (-9223372036854775808 : Int) ≤ x80 → x80 ≤ (9223372036854775807 : Int) →
∀ x81 : Int, x81 = (Cv.int (Env.get (bwide_sem.out [(.i x45), (.i x46), (.i x47), (.i x48), (.i x49), (.i x18)]) 1)) → (-9223372036854775808 : Int) ≤ x81 → x81 ≤ (9223372036854775807 : Int) →
((Cmp.den .lt x19 (2 : Int)) = true → ((Cmp.den .eq x69 (12 : Int)) = true → ((Cmp.den .eq x77 (12 : Int)) = true → ((Cmp.den .eq x79 (12 : Int)) = true → R (Value.bool (Cmp.den .eq x81 (12 : Int)))) ∧ ((Cmp.den .eq x79 (12 : Int)) = false → R (Value.bool false))) ∧ ((Cmp.den .eq x77 (12 : Int)) = false → R (Value.bool false))) ∧ ((Cmp.den .eq x69 (12 : Int)) = false → R (Value.bool false))) ∧ ((Cmp.den .lt x19 (2 : Int)) = false → ((Cmp.den .eq x69 (0 : Int)) = true → ((Cmp.den .eq x77 (0 : Int)) = true → ((Cmp.den .eq x79 (0 : Int)) = true → ((Cmp.den .eq x81 (0 : Int)) = true → ((Cmp.den .eq x66 x74) = true → (((Cmp.den .eq x67 x75) && (Cmp.den .eq x68 x76)) = true → ((Cmp.den .eq x65 x73) = true → ∀ x82 : Int, x82 = (IntKind.i64.wrap (x12 * x65)) →
∀ x83 : Int, x83 = (IntKind.i64.wrap (x64 + x82)) →
((Cmp.den .eq x72 x83) = true → R (Value.bool (Cmp.den .eq x78 x80))) ∧ ((Cmp.den .eq x72 x83) = false → R (Value.bool false))) ∧ ((Cmp.den .eq x65 x73) = false → R (Value.bool false))) ∧ (((Cmp.den .eq x67 x75) && (Cmp.den .eq x68 x76)) = false → R (Value.bool false))) ∧ ((Cmp.den .eq x66 x74) = false → R (Value.bool false))) ∧ ((Cmp.den .eq x81 (0 : Int)) = false → R (Value.bool false))) ∧ ((Cmp.den .eq x79 (0 : Int)) = false → R (Value.bool false))) ∧ ((Cmp.den .eq x77 (0 : Int)) = false → R (Value.bool false))) ∧ ((Cmp.den .eq x69 (0 : Int)) = false → R (Value.bool false))))))))))))))))))))))))))))) := by kernel_rfl

def lbsh_sem : SpecSem := { pre := fun cs => match cs with | [.i z, .l xs, .i y, .i s, .i r] => IsI z ∧ InI xs ∧ IsI y ∧ IsI s ∧ IsI r | _ => False, out := fun cs => match cs with | [.i z, .l xs, .i y, .i s, .i r] => [.b true] | _ => [] }
set_option maxRecDepth 10000 in
set_option maxHeartbeats 16000000 in
theorem lbsh_ok : SpecOK Try.prog 4 lbsh_sp lbsh_sem := by
  refine spec_of_tree lbsh_cxok Try.func4 (by kernel_rfl) (by kernel_rfl) lbsh_walk rfl ?_
  intro cs hpre
  match cs, hpre with
  | [.i z, .l xs, .i y, .i s, .i r], ⟨j_z, j_xs, j_y, j_s, j_r⟩ =>
    have h_z := j_z
    unfold IsI at h_z
    have h_y := j_y
    unfold IsI at h_y
    have h_s := j_s
    unfold IsI at h_s
    have h_r := j_r
    unfold IsI at h_r
    refine ⟨rfl, IvsB.ok (by simp only [lbsh_ivs, IvsB, Cv.int, and_true, j_xs, true_and] <;> omega), ?_, ?_⟩
    · simp only [lbsh_sem, lbsh_sp, Fits]
    · rw [lbsh_den]
      have hZ : 1 ≤ 1 + (z.tmod 10 + 10) % 10 ∧ 1 + (z.tmod 10 + 10) % 10 ≤ 10 := by omega
      have y2 : IsI (1 + (z.tmod 10 + 10) % 10) := ⟨by omega, by omega⟩
      simp (config := { maxSteps := 4000000 }) only [lbsh_sem, lbsh_sp, bnewn_sem, btaken_sem, bpoint_sem, bwide_sem, bal_sem, lbsh_den, bnewn_sem, btaken_sem, bpoint_sem, bwide_sem, bal_sem, Tree.den, LE.den, Cv.list, placeA, List.getElem?_cons_zero, List.getElem?_cons_succ, IE.den, BE.den, At.den, CA.den, Env.get, Cv.int, Cv.bool, List.cons_append, List.nil_append, List.map_cons, List.map_nil, bindRes, bindEq, Fits, SV.den, denL, place, placeL, eq_t, eq_f, lt_t, lt_f, le_t, le_f, beq_iff_eq, beq_eq_false_iff_ne, ne_eq, reduceCtorEq, b_dec, decide_eq_true_eq, decide_eq_false_iff_not, Bool.not_eq_false', Bool.or_eq_true, Bool.or_eq_false_iff, Bool.and_eq_false_iff, true_iff, false_iff, Bool.false_eq_true, Bool.not_eq_true', Bool.and_eq_true, Bool.not_true, Bool.not_false, List.cons.injEq, Cv.i.injEq, Cv.b.injEq, and_true, true_and, agg_inj, tup_inj, Value.int.injEq, Value.bool.injEq, y2, if_true, Int.reduceLE, Int.reduceNeg, Int.reduceEq, Int.reduceToNat, List.drop_zero, Nat.sub_zero, forall_eq, eq_self, if_true, if_false, true_and, and_true, false_and, and_false, true_or, or_true, false_or, or_false, true_iff, iff_true, false_iff, iff_false, not_true_eq_false, not_false_eq_true, true_implies, false_implies, implies_true, forall_const, decide_true, decide_false, reduceCtorEq]
      have hY := tm_rng (x := y) (m := 400000) (by omega)
      have hR : 0 ≤ (r.tmod 1000001 + 1000001) % 1000001 ∧ (r.tmod 1000001 + 1000001) % 1000001 ≤ 1000000 := by omega
      have hS := tm_rng (x := s) (m := (1 + (z.tmod 10 + 10) % 10) * 500000 + 1) (by omega)
      generalize s.tmod ((1 + (z.tmod 10 + 10) % 10) * 500000 + 1) = A at hS
      generalize 1 + (z.tmod 10 + 10) % 10 = Z at hZ hS
      generalize y.tmod 400000 = Y at hY
      generalize (r.tmod 1000001 + 1000001) % 1000001 = R at hR
      refine ⟨rowsI Z 500000, rowsMu, ⟨InI.nil, j_xs⟩, ⟨[], rfl, RowsK.nil hZ⟩, ?_⟩
      intro xg hxg xr hxr hI
      obtain ⟨L, rfl, hL⟩ : ∃ L, xg = enc L ∧ RowsK Z 500000 L := hI
      simp only [dec_enc]
      refine join2 (fun c1 c2 => ?_) (fun c1 c2 => ?_) fun c1 => ?_
      · generalize hq : List.take Z.toNat xr = q
        have hql : (q.length : Int) = Z := by rw [← hq, List.length_take]; omega
        refine ⟨rowI 500000 q, rowMu q, InI.nil, ⟨by omega, rfl, fun x hx => by cases hx⟩, ?_⟩
        intro y14 b1 b2 y15 b3 hI
        obtain ⟨h1, h2, h3⟩ : (0 ≤ y14 ∧ y14 ≤ (q.length : Int)) ∧ (y15.length : Int) = y14 ∧ inK 500000 y15 := hI
        refine ⟨fun k1 => ⟨fun k2 => ?_, fun k2 => by omega⟩, fun k1 => ?_⟩
        · have hc := @clamp_in 500000 (q.getD y14.toNat 0) (by omega)
          generalize (if 500000 < (if q.getD y14.toNat 0 < -500000 then -500000 else q.getD y14.toNat 0) then 500000 else if q.getD y14.toNat 0 < -500000 then -500000 else q.getD y14.toNat 0) = y at hc
          have hp := inK_push h3 hc
          refine ⟨⟨by omega, by omega, inK_inI (by omega) hp⟩, ⟨by omega, by simp only [List.length_append, List.length_singleton]; omega, hp⟩, ?_⟩
          show ((q.length : Int) - (y14 + 1)).toNat < ((q.length : Int) - y14).toNat
          omega
        · have hl : (y15.length : Int) = Z := by omega
          have fin : (InI (enc L ++ (y15.length : Int) :: y15) ∧ InI (List.take ((xr.length : Int).toNat - Z.toNat) (List.drop Z.toNat xr))) ∧ rowsI Z 500000 [Cv.l (enc L ++ (y15.length : Int) :: y15), Cv.l (List.take ((xr.length : Int).toNat - Z.toNat) (List.drop Z.toNat xr))] ∧ rowsMu [Cv.l (enc L ++ (y15.length : Int) :: y15), Cv.l (List.take ((xr.length : Int).toNat - Z.toNat) (List.drop Z.toNat xr))] < rowsMu [Cv.l (enc L), Cv.l xr] := by
            have hp := hL.push (by omega) hl h3
            rw [enc_push]
            refine ⟨⟨enc_inI (by omega) hp, InI.sub (xs := xr) hxr _ _⟩, ⟨_, rfl, hp⟩, ?_⟩
            show (List.take _ _).length < xr.length
            rw [List.length_take, List.length_drop]; omega
          have one : (Z ≤ (xr.length : Int) → ((xr.length : Int) ≤ (xr.length : Int) → (InI (enc L ++ (y15.length : Int) :: y15) ∧ InI (List.take ((xr.length : Int).toNat - Z.toNat) (List.drop Z.toNat xr))) ∧ rowsI Z 500000 [Cv.l (enc L ++ (y15.length : Int) :: y15), Cv.l (List.take ((xr.length : Int).toNat - Z.toNat) (List.drop Z.toNat xr))] ∧ rowsMu [Cv.l (enc L ++ (y15.length : Int) :: y15), Cv.l (List.take ((xr.length : Int).toNat - Z.toNat) (List.drop Z.toNat xr))] < rowsMu [Cv.l (enc L), Cv.l xr]) ∧ ((xr.length : Int) < (xr.length : Int) → False)) ∧ ((xr.length : Int) < Z → False) := ⟨fun _ => ⟨fun _ => fin, fun h => by omega⟩, fun h => by omega⟩
          exact ⟨⟨one, one⟩, one⟩
      all_goals
        have hOK := hL.ok (by omega)
        have hlen := hL.2.1
        refine ⟨turnI L, turnMu, ⟨by omega, by omega, InI.nil⟩, ⟨by omega, by unfold turnP; rw [List.drop_of_length_le (by omega)]; rfl⟩, ?_⟩
        intro x21 b1 b2 x22 b3 hI
        obtain ⟨hi, rfl⟩ : (-1 ≤ x21 ∧ x21 ≤ (L.length : Int) - 1) ∧ x22 = enc (turnP L (x21 + 1).toNat) := hI
        simp only [dec_enc]
        refine ⟨fun k1 => ⟨fun k2 => ?_, fun k2 => by omega⟩, fun k1 => ?_⟩
        · have hrow := hL.2.2 _ (getD_row (show x21.toNat < L.length by omega))
          refine ⟨revI (L.getD x21.toNat []), turnMu, ⟨by omega, by omega, InI.nil⟩, ⟨by omega, by rw [List.drop_of_length_le (by omega)]; rfl⟩, ?_⟩
          intro x26 d1 d2 x27 d3 hI
          obtain ⟨hj, e1⟩ : (-1 ≤ x26 ∧ x26 ≤ ((L.getD x21.toNat []).length : Int) - 1) ∧ x27 = ((L.getD x21.toNat []).drop (x26 + 1).toNat).reverse := hI
          have hl : x27.length = (L.getD x21.toNat []).length - (x26 + 1).toNat := by rw [e1, List.length_reverse, List.length_drop]
          refine ⟨fun k3 => ⟨fun _ => ⟨fun k4 => ⟨fun k5 => ?_, fun k5 => by omega⟩, fun k4 => by omega⟩, fun _ => by omega⟩, fun k3 => ?_⟩
          · have hp : x27 ++ [(L.getD x21.toNat []).getD x26.toNat 0] = ((L.getD x21.toNat []).drop x26.toNat).reverse := by rw [rev_step k3 k4, e1]
            rw [hp]
            refine ⟨⟨by omega, by omega, fun x hx => ?_⟩, ⟨by omega, by rw [show x26 - 1 + 1 = x26 by omega]⟩, ?_⟩
            · have := hrow.2 x (List.mem_of_mem_drop (List.mem_reverse.1 hx)); omega
            · show (x26 - 1 + 1).toNat < (x26 + 1).toNat
              omega
          · have e2 : x27 = (L.getD x21.toNat []).reverse := by rw [e1, show (x26 + 1).toNat = 0 by omega, List.drop_zero]
            refine ⟨fun k4 => ?_, fun k4 => ?_⟩
            · have hp : enc (turnP L (x21 + 1).toNat) ++ (x27.length : Int) :: x27 = enc (turnP L x21.toNat) := by rw [enc_push, e2, turn_step k1 k2]
              rw [hp]
              refine ⟨⟨by omega, by omega, enc_inI (by omega) (hL.turn _)⟩, ⟨by omega, by rw [show x21 - 1 + 1 = x21 by omega]⟩, ?_⟩
              show (x21 - 1 + 1).toNat < (x21 + 1).toNat
              omega
            · have := (hL.turn (x21 + 1).toNat).2.1; omega
        rw [show (x21 + 1).toNat = 0 by omega, turnP_all]
        clear k1 hi b1 b2
        refine ⟨movI Y L, movMu L, InI.nil, ⟨by omega, by unfold moveP; rw [show Int.toNat 0 = 0 from rfl, List.take_zero]; rfl⟩, ?_⟩
        intro x23 b1 b2 x24 b4 hI
        obtain ⟨hi, rfl⟩ : (0 ≤ x23 ∧ x23 ≤ (L.length : Int)) ∧ x24 = enc (moveP Y L x23.toNat) := hI
        have hMv := hL.move (c := Y) (C := 400000) (by omega)
        simp only [dec_enc]
        refine ⟨fun k1 => ?_, fun k1 => ?_⟩
        · have hrow := hL.2.2 _ (getD_row (show x23.toNat < L.length by omega))
          refine ⟨addI Y (L.getD x23.toNat []), addMu (L.getD x23.toNat []), InI.nil, ⟨by omega, rfl⟩, ?_⟩
          intro x27 d1 d2 x28 d3 hI
          obtain ⟨hj, e1⟩ : (0 ≤ x27 ∧ x27 ≤ ((L.getD x23.toNat []).length : Int)) ∧ x28 = ((L.getD x23.toNat []).take x27.toNat).map (· + Y) := hI
          have hl : x28.length = min x27.toNat (L.getD x23.toNat []).length := by rw [e1, List.length_map, List.length_take]
          refine ⟨fun k3 => ⟨fun k4 => ?_, fun k4 => by omega⟩, fun k3 => ⟨fun k4 => ?_, fun k4 => ?_⟩⟩
          · have hv := hrow.2 _ (getD_mem (i := x27) (by omega) k3)
            have ew : IntKind.i64.wrap ((L.getD x23.toNat []).getD x27.toNat 0 + Y) = (L.getD x23.toNat []).getD x27.toNat 0 + Y := w64 (by omega) (by omega)
            have hp : x28 ++ [IntKind.i64.wrap ((L.getD x23.toNat []).getD x27.toNat 0 + Y)] = ((L.getD x23.toNat []).take (x27 + 1).toNat).map (· + Y) := by rw [ew, add_step hj.1 k3, e1]
            rw [hp]
            refine ⟨⟨by omega, by omega, fun x hx => ?_⟩, ⟨by omega, rfl⟩, ?_⟩
            · obtain ⟨u, hu, rfl⟩ := List.mem_map.1 hx
              have := hrow.2 u (List.mem_of_mem_take hu)
              show -9223372036854775808 ≤ u + Y ∧ u + Y ≤ 9223372036854775807
              omega
            · show (((L.getD x23.toNat []).length : Int) - (x27 + 1)).toNat < (((L.getD x23.toNat []).length : Int) - x27).toNat
              omega
          · have e2 : x28 = (L.getD x23.toNat []).map (· + Y) := by rw [e1, List.take_of_length_le (by omega)]
            have hp : enc (moveP Y L x23.toNat) ++ (x28.length : Int) :: x28 = enc (moveP Y L (x23 + 1).toNat) := by rw [enc_push, e2, move_step hi.1 k1]
            rw [hp]
            refine ⟨⟨by omega, by omega, enc_inI (by omega) (hMv _)⟩, ⟨by omega, rfl⟩, ?_⟩
            show ((L.length : Int) - (x23 + 1)).toNat < ((L.length : Int) - x23).toNat
            omega
          · have := (hMv x23.toNat).2.1; omega
        rw [show x23.toNat = L.length by omega, moveP_all]
        clear k1 hi b1 b2
        have hM := hMv L.length
        rw [moveP_all] at hM
        have hMO := hM.ok (by omega)
        have hT := hL.turn 0
        rw [turnP_all] at hT
        have hTO := hT.ok (by omega)
        have gR := fun n hn => moved_R (z := Z) (c := Y) (L := L) hZ.1 (fun r hr => (hL.2.2 r hr).1) n hn
        have gS := fun n hn => moved_S (z := Z) (c := Y) (L := L) (fun r hr => (hL.2.2 r hr).1) n hn
        have tS := turn_S (L := L)
        have tR := turn_R (z := Z) (L := L) hZ.1 (fun r hr => (hL.2.2 r hr).1)
        have tl : (turnL L).length = L.length := by simp [turnL]
        have ml : (L.map (List.map (· + Y))).length = L.length := by rw [List.length_map]
        generalize hMM : L.map (List.map (· + Y)) = M at *
        generalize hTT : turnL L = T at *
        refine ⟨hZ, fun _ _ => ?_⟩
        refine ⟨madeI Z L, madeMu L, by omega, ⟨by omega, rfl, rfl, rfl, rfl, rfl⟩, ?_⟩
        intro ia b1 b2 za b3 b4 ma b5 b6 sa b7 b8 ra b9 b10 aa b11 b12 hI
        obtain ⟨hi, e1a, e2a, e3a, e4a, e5a⟩ : (0 ≤ ia ∧ ia ≤ (L.length : Int)) ∧ za = Z ∧ ma = ia ∧ sa = bSn L ia.toNat ∧ ra = bRn Z L ia.toNat ∧ aa = bLn L ia.toNat := hI
        refine ⟨fun k1 => ?_, fun k1 => ?_⟩
        · subst e1a; subst e2a; subst e3a; subst e4a; subst e5a
          obtain ⟨s1, s2, s3, s4, s5⟩ := made_step hOK hi.1 k1
          have f1 := fold_ok hOK ma.toNat (by omega)
          have f2 := fold_ok hOK (ma + 1).toNat (by omega)
          rw [show ((ma.toNat : Nat) : Int) = ma by omega] at f1
          rw [show (((ma + 1).toNat : Nat) : Int) = ma + 1 by omega] at f2
          simp only [s2, s3, s4, s5, if_true, if_false, true_and, and_true, false_and, and_false, true_or, or_true, false_or, or_false, true_iff, iff_true, false_iff, iff_false, not_true_eq_false, not_false_eq_true, true_implies, false_implies, implies_true, forall_const, decide_true, decide_false, reduceCtorEq]
          refine ⟨⟨f1, f2⟩, ?_⟩
          have hf := made_fits hOK (i := ma + 1) (by omega)
          intros
          refine ⟨by omega, ⟨by omega, rfl, rfl, rfl, rfl, rfl⟩, ?_⟩
          show ((L.length : Int) - (ma + 1)).toNat < ((L.length : Int) - ma).toNat
          omega
        have Ba := fold_ok hOK L.length (Nat.le_refl _)
        have qa : ia = (L.length : Int) := by omega
        rw [qa, Int.toNat_natCast] at e3a e4a e5a
        rw [qa] at e2a
        rw [← e2a, ← e3a, ← e4a, ← e5a, ← e1a] at Ba
        clear k1 hi b1 b2
        refine ⟨hZ, fun _ _ => ?_⟩
        refine ⟨madeI Z M, madeMu M, by omega, ⟨by omega, rfl, rfl, rfl, rfl, rfl⟩, ?_⟩
        intro ib b1 b2 zb b3 b4 mb b5 b6 sb b7 b8 rb b9 b10 ab b11 b12 hI
        obtain ⟨hi, e1b, e2b, e3b, e4b, e5b⟩ : (0 ≤ ib ∧ ib ≤ (M.length : Int)) ∧ zb = Z ∧ mb = ib ∧ sb = bSn M ib.toNat ∧ rb = bRn Z M ib.toNat ∧ ab = bLn M ib.toNat := hI
        refine ⟨fun k1 => ?_, fun k1 => ?_⟩
        · subst e1b; subst e2b; subst e3b; subst e4b; subst e5b
          obtain ⟨s1, s2, s3, s4, s5⟩ := made_step hMO hi.1 k1
          have f1 := fold_ok hMO mb.toNat (by omega)
          have f2 := fold_ok hMO (mb + 1).toNat (by omega)
          rw [show ((mb.toNat : Nat) : Int) = mb by omega] at f1
          rw [show (((mb + 1).toNat : Nat) : Int) = mb + 1 by omega] at f2
          simp only [s2, s3, s4, s5, if_true, if_false, true_and, and_true, false_and, and_false, true_or, or_true, false_or, or_false, true_iff, iff_true, false_iff, iff_false, not_true_eq_false, not_false_eq_true, true_implies, false_implies, implies_true, forall_const, decide_true, decide_false, reduceCtorEq]
          refine ⟨⟨f1, f2⟩, ?_⟩
          have hf := made_fits hMO (i := mb + 1) (by omega)
          intros
          refine ⟨by omega, ⟨by omega, rfl, rfl, rfl, rfl, rfl⟩, ?_⟩
          show ((M.length : Int) - (mb + 1)).toNat < ((M.length : Int) - mb).toNat
          omega
        have Bb := fold_ok hMO M.length (Nat.le_refl _)
        have qb : ib = (M.length : Int) := by omega
        rw [qb, Int.toNat_natCast] at e3b e4b e5b
        rw [qb] at e2b
        rw [← e2b, ← e3b, ← e4b, ← e5b, ← e1b] at Bb
        clear k1 hi b1 b2
        refine ⟨hZ, fun _ _ => ?_⟩
        refine ⟨madeI Z T, madeMu T, by omega, ⟨by omega, rfl, rfl, rfl, rfl, rfl⟩, ?_⟩
        intro ic b1 b2 zc b3 b4 mc b5 b6 sc b7 b8 rc b9 b10 ac b11 b12 hI
        obtain ⟨hi, e1c, e2c, e3c, e4c, e5c⟩ : (0 ≤ ic ∧ ic ≤ (T.length : Int)) ∧ zc = Z ∧ mc = ic ∧ sc = bSn T ic.toNat ∧ rc = bRn Z T ic.toNat ∧ ac = bLn T ic.toNat := hI
        refine ⟨fun k1 => ?_, fun k1 => ?_⟩
        · subst e1c; subst e2c; subst e3c; subst e4c; subst e5c
          obtain ⟨s1, s2, s3, s4, s5⟩ := made_step hTO hi.1 k1
          have f1 := fold_ok hTO mc.toNat (by omega)
          have f2 := fold_ok hTO (mc + 1).toNat (by omega)
          rw [show ((mc.toNat : Nat) : Int) = mc by omega] at f1
          rw [show (((mc + 1).toNat : Nat) : Int) = mc + 1 by omega] at f2
          simp only [s2, s3, s4, s5, if_true, if_false, true_and, and_true, false_and, and_false, true_or, or_true, false_or, or_false, true_iff, iff_true, false_iff, iff_false, not_true_eq_false, not_false_eq_true, true_implies, false_implies, implies_true, forall_const, decide_true, decide_false, reduceCtorEq]
          refine ⟨⟨f1, f2⟩, ?_⟩
          have hf := made_fits hTO (i := mc + 1) (by omega)
          intros
          refine ⟨by omega, ⟨by omega, rfl, rfl, rfl, rfl, rfl⟩, ?_⟩
          show ((T.length : Int) - (mc + 1)).toNat < ((T.length : Int) - mc).toNat
          omega
        have Bc := fold_ok hTO T.length (Nat.le_refl _)
        have qc : ic = (T.length : Int) := by omega
        rw [qc, Int.toNat_natCast] at e3c e4c e5c
        rw [qc] at e2c
        rw [← e2c, ← e3c, ← e4c, ← e5c, ← e1c] at Bc
        clear k1 hi b1 b2
        have z1 : za = zb := by rw [e1a, e1b]
        have z2 : za = zc := by rw [e1a, e1c]
        have m1 : ma = mb := by rw [e2a, e2b, ml]
        have m2 : ma = mc := by rw [e2a, e2c, tl]
        have r1 : ra = rb := by rw [e4a, e4b, ml, (gR _ (Nat.le_refl _)).1]
        have r2 : ra = rc := by rw [e4a, e4c, tl, tR]
        have s1 : sb = sa + ma * za * Y := by rw [e3a, e3b, ml, gS _ (Nat.le_refl _), e2a, e1a]
        have s2 : sa = sc := by rw [e3a, e3c, tl, tS]
        have hl2 : ma = (L.length : Int) := e2a
        clear e1b e1c e2b e2c e3b e3c e4b e4c e2a e3a e4a e5a e5b e5c gR gS tS tR hMM hTT
        subst z1; subst z2; subst m1; subst m2; subst r1; subst r2; subst s1; subst s2
        subst e1a
        have pN := bpN_rng (z := za) (m := ma) ⟨by omega, by omega⟩ ⟨by omega, by omega⟩
        have hA1 : -(za * 1000000) ≤ A ∧ A ≤ za * 1000000 := by omega
        have hyz : -400000 * za ≤ Y * za ∧ Y * za ≤ 400000 * za := ⟨Int.mul_le_mul_of_nonneg_right (by omega) (by omega), Int.mul_le_mul_of_nonneg_right (by omega) (by omega)⟩
        have hB1 : -(za * 1000000) ≤ A + Y * za ∧ A + Y * za ≤ za * 1000000 := by omega
        have pA := bp_rng Ba (x := A) hA1
        have pB := bp_rng Bb (x := A + Y * za) hB1
        have eA : bpE za ma sa ra aa A = if ma < 2 then 12 else 0 := by unfold bpE; rw [if_pos ⟨Ba, hA1.1, hA1.2⟩]
        have eB : bpE za ma (sa + ma * za * Y) ra ab (A + Y * za) = if ma < 2 then 12 else 0 := by unfold bpE; rw [if_pos ⟨Bb, hB1.1, hB1.2⟩]
        have eC : bwE za ma sa ra aa R = if ma < 2 then 12 else 0 := by unfold bwE; rw [if_pos ⟨Ba, hR.1, by omega⟩]
        have eD : bwE za ma (sa + ma * za * Y) ra ab R = if ma < 2 then 12 else 0 := by unfold bwE; rw [if_pos ⟨Bb, hR.1, by omega⟩]
        have hprod := mulIv_sound (p := (-400000, 400000)) (q := (-100000000, 100000000)) (x := Y) (y := bpN za ma) ⟨by omega, by omega⟩ ⟨pN.1, pN.2⟩
        have hprod2 : -40000000000000 ≤ Y * bpN za ma ∧ Y * bpN za ma ≤ 40000000000000 := hprod
        have w1 : IntKind.i64.wrap (Y * bpN za ma) = Y * bpN za ma := w64 (by omega) (by omega)
        have w2 : IntKind.i64.wrap (bpC za ma sa + Y * bpN za ma) = bpC za ma sa + Y * bpN za ma := w64 (by omega) (by omega)
        have ra1 := Ba.rng
        have rb1 := Bb.rng
        have iz : IsI za := ⟨by omega, by omega⟩
        have im : IsI ma := ⟨by omega, by omega⟩
        have is1 : IsI sa := ⟨by omega, by omega⟩
        have is2 : IsI (sa + ma * za * Y) := ⟨by omega, by omega⟩
        have ir : IsI ra := ⟨by omega, by omega⟩
        have ia1 : IsI aa := ⟨by omega, by omega⟩
        have ib1 : IsI ab := ⟨by omega, by omega⟩
        have iA : IsI A := ⟨by omega, by omega⟩
        have iB : IsI (A + Y * za) := ⟨by omega, by omega⟩
        have iR : IsI R := ⟨by omega, by omega⟩
        obtain h2 | h2 : ma < 2 ∨ 2 ≤ ma := by omega
        · rw [if_pos h2] at eA eB eC eD
          first
            | exact absurd c2 (by omega)
            | (simp only [eA, eB, eC, eD, iz, im, is1, is2, ir, ia1, ib1, iA, iB, iR, Int.reduceEq, eq_self, and_self, if_true, if_false, true_and, and_true, false_and, and_false, true_or, or_true, false_or, or_false, true_iff, iff_true, false_iff, iff_false, not_true_eq_false, not_false_eq_true, true_implies, false_implies, implies_true, forall_const, decide_true, decide_false, reduceCtorEq]
               repeat' (first | intro _ | refine And.intro ?_ ?_)
               all_goals omega)
        · rw [if_neg (show ¬ ma < 2 by omega)] at eA eB eC eD
          simp only [eA, eB, eC, eD, iz, im, is1, is2, ir, ia1, ib1, iA, iB, iR, shift_D, shift_C, w1, w2, Int.reduceEq, eq_self, and_self, or_self, if_true, if_false, true_and, and_true, false_and, and_false, true_or, or_true, false_or, or_false, true_iff, iff_true, false_iff, iff_false, not_true_eq_false, not_false_eq_true, true_implies, false_implies, implies_true, forall_const, decide_true, decide_false, reduceCtorEq]
          repeat' (first | intro _ | refine And.intro ?_ ?_)
          all_goals omega
end Go.Proofs.Ytjbokdekofiihaa.X
