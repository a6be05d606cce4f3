/-
  The contracts of the reference's sizes, products and quotients of ints (datumref04), for every input in range.
-/
import Derived.Test.YtglpelnaeipenaaGreatSxMulDiv
import Derived.Test.YtglpelnaeipenaaGreatSxRefProd
import Derived.Test.YtglpelnaeipenaaGreatSxRefDiv
namespace Go.Proofs.YtglpelnaeipenaaGreat.X
open Go Go.SX Go.RowKit
set_option linter.unusedVariables false
set_option linter.unusedSimpArgs false





def r4divd_sp : SpecSh := { args := [(.agg [(.bool .f), (.int .u64 (.z 0)), (.int .u64 (.z 0))]), (.int .i64 (.z 0)), (.int .i64 (.z 0))], res := (.tup [(.int .i64 (.z 0)), (.int .i64 (.z 0))]), sh := [.i (some ((-9223372036854775808), 9223372036854775807)), .i (some ((-9223372036854775808), 9223372036854775807))] }
set_option maxRecDepth 100000 in
def r4divd_tree : Tree :=
.ite (.not (.eqv (.v 0) (.cmp .lt (.v 3) (.z 0)))) (.call 77 [.i (some (0, 18446744073709551615)), .i (some (0, 18446744073709551615))] [.i (.v 3)] <|
.call 76 [.i (some (0, 18446744073709551615)), .i (some (0, 18446744073709551615)), .i (some (0, 18446744073709551615)), .i (some (0, 18446744073709551615))] [.i (.v 1), .i (.v 2), .i (.v 5), .i (.v 6)] <|
.call 78 [.i (some (0, 18446744073709551615)), .i (some (0, 18446744073709551615)), .b] [.i (.v 9), .i (.v 10), .i (.v 9), .i (.v 10)] <|
.ite (.cmp .eq (.v 4) (.z 0)) (.ite (.not (.and (.cmp .eq (.v 1) (.z 0)) (.cmp .eq (.v 2) (.z 0)))) (.ite (.not (.and (.cmp .eq (.v 9) (.z 0)) (.cmp .eq (.v 10) (.z 0)))) (.call 78 [.i (some (0, 18446744073709551615)), .i (some (0, 18446744073709551615)), .b] [.i (.v 7), .i (.v 8), .i (.z 0), .i (.z 1)] <|
.ite (.cmp .lt (.z 0) (.v 14)) (.ret (.tup [(.int .i64 (.z 0)), (.int .i64 (.z 5))])) <|
.ite (.cmp .lt (.z 9223372036854775808) (.v 15)) (.ret (.tup [(.int .i64 (.z 0)), (.int .i64 (.z 5))])) <|
.ite (.cmp .eq (.v 15) (.z 9223372036854775808)) (.ret (.tup [(.int .i64 (.z (-9223372036854775808))), (.int .i64 (.z 0))])) <|
.lett (.sub (.z 0) (.v 15)) <|
.ret (.tup [(.int .i64 (.v 17)), (.int .i64 (.z 0))])) <|
.ite (.cmp .lt (.z 0) (.v 7)) (.ret (.tup [(.int .i64 (.z 0)), (.int .i64 (.z 5))])) <|
.ite (.cmp .lt (.z 9223372036854775808) (.v 8)) (.ret (.tup [(.int .i64 (.z 0)), (.int .i64 (.z 5))])) <|
.ite (.cmp .eq (.v 8) (.z 9223372036854775808)) (.ret (.tup [(.int .i64 (.z (-9223372036854775808))), (.int .i64 (.z 0))])) <|
.lett (.sub (.z 0) (.v 8)) <|
.ret (.tup [(.int .i64 (.v 14)), (.int .i64 (.z 0))])) <|
.ite (.cmp .lt (.z 0) (.v 7)) (.ret (.tup [(.int .i64 (.z 0)), (.int .i64 (.z 5))])) <|
.ite (.cmp .lt (.z 9223372036854775808) (.v 8)) (.ret (.tup [(.int .i64 (.z 0)), (.int .i64 (.z 5))])) <|
.ite (.cmp .eq (.v 8) (.z 9223372036854775808)) (.ret (.tup [(.int .i64 (.z 0)), (.int .i64 (.z 5))])) <|
.ret (.tup [(.int .i64 (.v 8)), (.int .i64 (.z 0))])) <|
.ite (.cmp .eq (.v 4) (.z 1)) (.ite (.and (.cmp .eq (.v 1) (.z 0)) (.cmp .eq (.v 2) (.z 0))) (.ite (.not (.and (.cmp .eq (.v 9) (.z 0)) (.cmp .eq (.v 10) (.z 0)))) (.call 78 [.i (some (0, 18446744073709551615)), .i (some (0, 18446744073709551615)), .b] [.i (.v 7), .i (.v 8), .i (.z 0), .i (.z 1)] <|
.ite (.cmp .lt (.z 0) (.v 14)) (.ret (.tup [(.int .i64 (.z 0)), (.int .i64 (.z 5))])) <|
.ite (.cmp .lt (.z 9223372036854775808) (.v 15)) (.ret (.tup [(.int .i64 (.z 0)), (.int .i64 (.z 5))])) <|
.ite (.cmp .eq (.v 15) (.z 9223372036854775808)) (.ret (.tup [(.int .i64 (.z 0)), (.int .i64 (.z 5))])) <|
.ret (.tup [(.int .i64 (.v 15)), (.int .i64 (.z 0))])) <|
.ite (.cmp .lt (.z 0) (.v 7)) (.ret (.tup [(.int .i64 (.z 0)), (.int .i64 (.z 5))])) <|
.ite (.cmp .lt (.z 9223372036854775808) (.v 8)) (.ret (.tup [(.int .i64 (.z 0)), (.int .i64 (.z 5))])) <|
.ite (.cmp .eq (.v 8) (.z 9223372036854775808)) (.ret (.tup [(.int .i64 (.z 0)), (.int .i64 (.z 5))])) <|
.ret (.tup [(.int .i64 (.v 8)), (.int .i64 (.z 0))])) <|
.ite (.cmp .lt (.z 0) (.v 7)) (.ret (.tup [(.int .i64 (.z 0)), (.int .i64 (.z 5))])) <|
.ite (.cmp .lt (.z 9223372036854775808) (.v 8)) (.ret (.tup [(.int .i64 (.z 0)), (.int .i64 (.z 5))])) <|
.ite (.cmp .eq (.v 8) (.z 9223372036854775808)) (.ret (.tup [(.int .i64 (.z (-9223372036854775808))), (.int .i64 (.z 0))])) <|
.lett (.sub (.z 0) (.v 8)) <|
.ret (.tup [(.int .i64 (.v 14)), (.int .i64 (.z 0))])) <|
.ite (.cmp .eq (.v 4) (.z 2)) (.call 77 [.i (some (0, 18446744073709551615)), .i (some (0, 18446744073709551615))] [.i (.v 3)] <|
.ite (.not (.cmp .eq (.v 14) (.v 11))) (.ite (.cmp .lt (.v 14) (.v 11)) (.call 78 [.i (some (0, 18446744073709551615)), .i (some (0, 18446744073709551615)), .b] [.i (.v 7), .i (.v 8), .i (.z 0), .i (.z 1)] <|
.ite (.cmp .lt (.z 0) (.v 16)) (.ret (.tup [(.int .i64 (.z 0)), (.int .i64 (.z 5))])) <|
.ite (.cmp .lt (.z 9223372036854775808) (.v 17)) (.ret (.tup [(.int .i64 (.z 0)), (.int .i64 (.z 5))])) <|
.ite (.cmp .eq (.v 17) (.z 9223372036854775808)) (.ite (.and (.cmp .eq (.v 1) (.z 0)) (.cmp .eq (.v 2) (.z 0))) (.ret (.tup [(.int .i64 (.z 0)), (.int .i64 (.z 5))])) <|
.ret (.tup [(.int .i64 (.z (-9223372036854775808))), (.int .i64 (.z 0))])) <|
.ite (.not (.and (.cmp .eq (.v 1) (.z 0)) (.cmp .eq (.v 2) (.z 0)))) (.lett (.sub (.z 0) (.v 17)) <|
.ret (.tup [(.int .i64 (.v 19)), (.int .i64 (.z 0))])) <|
.ret (.tup [(.int .i64 (.v 17)), (.int .i64 (.z 0))])) <|
.call 77 [.i (some (0, 18446744073709551615)), .i (some (0, 18446744073709551615))] [.i (.v 3)] <|
.ite (.and (.cmp .eq (.v 11) (.v 16)) (.cmp .eq (.v 12) (.v 17))) (.lett (.mod (.v 8) (.z 2)) <|
.ite (.cmp .eq (.v 18) (.z 1)) (.call 78 [.i (some (0, 18446744073709551615)), .i (some (0, 18446744073709551615)), .b] [.i (.v 7), .i (.v 8), .i (.z 0), .i (.z 1)] <|
.ite (.cmp .lt (.z 0) (.v 19)) (.ret (.tup [(.int .i64 (.z 0)), (.int .i64 (.z 5))])) <|
.ite (.cmp .lt (.z 9223372036854775808) (.v 20)) (.ret (.tup [(.int .i64 (.z 0)), (.int .i64 (.z 5))])) <|
.ite (.cmp .eq (.v 20) (.z 9223372036854775808)) (.ite (.and (.cmp .eq (.v 1) (.z 0)) (.cmp .eq (.v 2) (.z 0))) (.ret (.tup [(.int .i64 (.z 0)), (.int .i64 (.z 5))])) <|
.ret (.tup [(.int .i64 (.z (-9223372036854775808))), (.int .i64 (.z 0))])) <|
.ite (.not (.and (.cmp .eq (.v 1) (.z 0)) (.cmp .eq (.v 2) (.z 0)))) (.lett (.sub (.z 0) (.v 20)) <|
.ret (.tup [(.int .i64 (.v 22)), (.int .i64 (.z 0))])) <|
.ret (.tup [(.int .i64 (.v 20)), (.int .i64 (.z 0))])) <|
.ite (.cmp .lt (.z 0) (.v 7)) (.ret (.tup [(.int .i64 (.z 0)), (.int .i64 (.z 5))])) <|
.ite (.cmp .lt (.z 9223372036854775808) (.v 8)) (.ret (.tup [(.int .i64 (.z 0)), (.int .i64 (.z 5))])) <|
.ite (.cmp .eq (.v 8) (.z 9223372036854775808)) (.ite (.and (.cmp .eq (.v 1) (.z 0)) (.cmp .eq (.v 2) (.z 0))) (.ret (.tup [(.int .i64 (.z 0)), (.int .i64 (.z 5))])) <|
.ret (.tup [(.int .i64 (.z (-9223372036854775808))), (.int .i64 (.z 0))])) <|
.ite (.not (.and (.cmp .eq (.v 1) (.z 0)) (.cmp .eq (.v 2) (.z 0)))) (.lett (.sub (.z 0) (.v 8)) <|
.ret (.tup [(.int .i64 (.v 19)), (.int .i64 (.z 0))])) <|
.ret (.tup [(.int .i64 (.v 8)), (.int .i64 (.z 0))])) <|
.ite (.cmp .lt (.z 0) (.v 7)) (.ret (.tup [(.int .i64 (.z 0)), (.int .i64 (.z 5))])) <|
.ite (.cmp .lt (.z 9223372036854775808) (.v 8)) (.ret (.tup [(.int .i64 (.z 0)), (.int .i64 (.z 5))])) <|
.ite (.cmp .eq (.v 8) (.z 9223372036854775808)) (.ite (.and (.cmp .eq (.v 1) (.z 0)) (.cmp .eq (.v 2) (.z 0))) (.ret (.tup [(.int .i64 (.z 0)), (.int .i64 (.z 5))])) <|
.ret (.tup [(.int .i64 (.z (-9223372036854775808))), (.int .i64 (.z 0))])) <|
.ite (.not (.and (.cmp .eq (.v 1) (.z 0)) (.cmp .eq (.v 2) (.z 0)))) (.lett (.sub (.z 0) (.v 8)) <|
.ret (.tup [(.int .i64 (.v 18)), (.int .i64 (.z 0))])) <|
.ret (.tup [(.int .i64 (.v 8)), (.int .i64 (.z 0))])) <|
.ite (.cmp .lt (.v 15) (.v 12)) (.call 78 [.i (some (0, 18446744073709551615)), .i (some (0, 18446744073709551615)), .b] [.i (.v 7), .i (.v 8), .i (.z 0), .i (.z 1)] <|
.ite (.cmp .lt (.z 0) (.v 16)) (.ret (.tup [(.int .i64 (.z 0)), (.int .i64 (.z 5))])) <|
.ite (.cmp .lt (.z 9223372036854775808) (.v 17)) (.ret (.tup [(.int .i64 (.z 0)), (.int .i64 (.z 5))])) <|
.ite (.cmp .eq (.v 17) (.z 9223372036854775808)) (.ite (.and (.cmp .eq (.v 1) (.z 0)) (.cmp .eq (.v 2) (.z 0))) (.ret (.tup [(.int .i64 (.z 0)), (.int .i64 (.z 5))])) <|
.ret (.tup [(.int .i64 (.z (-9223372036854775808))), (.int .i64 (.z 0))])) <|
.ite (.not (.and (.cmp .eq (.v 1) (.z 0)) (.cmp .eq (.v 2) (.z 0)))) (.lett (.sub (.z 0) (.v 17)) <|
.ret (.tup [(.int .i64 (.v 19)), (.int .i64 (.z 0))])) <|
.ret (.tup [(.int .i64 (.v 17)), (.int .i64 (.z 0))])) <|
.call 77 [.i (some (0, 18446744073709551615)), .i (some (0, 18446744073709551615))] [.i (.v 3)] <|
.ite (.and (.cmp .eq (.v 11) (.v 16)) (.cmp .eq (.v 12) (.v 17))) (.lett (.mod (.v 8) (.z 2)) <|
.ite (.cmp .eq (.v 18) (.z 1)) (.call 78 [.i (some (0, 18446744073709551615)), .i (some (0, 18446744073709551615)), .b] [.i (.v 7), .i (.v 8), .i (.z 0), .i (.z 1)] <|
.ite (.cmp .lt (.z 0) (.v 19)) (.ret (.tup [(.int .i64 (.z 0)), (.int .i64 (.z 5))])) <|
.ite (.cmp .lt (.z 9223372036854775808) (.v 20)) (.ret (.tup [(.int .i64 (.z 0)), (.int .i64 (.z 5))])) <|
.ite (.cmp .eq (.v 20) (.z 9223372036854775808)) (.ite (.and (.cmp .eq (.v 1) (.z 0)) (.cmp .eq (.v 2) (.z 0))) (.ret (.tup [(.int .i64 (.z 0)), (.int .i64 (.z 5))])) <|
.ret (.tup [(.int .i64 (.z (-9223372036854775808))), (.int .i64 (.z 0))])) <|
.ite (.not (.and (.cmp .eq (.v 1) (.z 0)) (.cmp .eq (.v 2) (.z 0)))) (.lett (.sub (.z 0) (.v 20)) <|
.ret (.tup [(.int .i64 (.v 22)), (.int .i64 (.z 0))])) <|
.ret (.tup [(.int .i64 (.v 20)), (.int .i64 (.z 0))])) <|
.ite (.cmp .lt (.z 0) (.v 7)) (.ret (.tup [(.int .i64 (.z 0)), (.int .i64 (.z 5))])) <|
.ite (.cmp .lt (.z 9223372036854775808) (.v 8)) (.ret (.tup [(.int .i64 (.z 0)), (.int .i64 (.z 5))])) <|
.ite (.cmp .eq (.v 8) (.z 9223372036854775808)) (.ite (.and (.cmp .eq (.v 1) (.z 0)) (.cmp .eq (.v 2) (.z 0))) (.ret (.tup [(.int .i64 (.z 0)), (.int .i64 (.z 5))])) <|
.ret (.tup [(.int .i64 (.z (-9223372036854775808))), (.int .i64 (.z 0))])) <|
.ite (.not (.and (.cmp .eq (.v 1) (.z 0)) (.cmp .eq (.v 2) (.z 0)))) (.lett (.sub (.z 0) (.v 8)) <|
.ret (.tup [(.int .i64 (.v 19)), (.int .i64 (.z 0))])) <|
.ret (.tup [(.int .i64 (.v 8)), (.int .i64 (.z 0))])) <|
.ite (.cmp .lt (.z 0) (.v 7)) (.ret (.tup [(.int .i64 (.z 0)), (.int .i64 (.z 5))])) <|
.ite (.cmp .lt (.z 9223372036854775808) (.v 8)) (.ret (.tup [(.int .i64 (.z 0)), (.int .i64 (.z 5))])) <|
.ite (.cmp .eq (.v 8) (.z 9223372036854775808)) (.ite (.and (.cmp .eq (.v 1) (.z 0)) (.cmp .eq (.v 2) (.z 0))) (.ret (.tup [(.int .i64 (.z 0)), (.int .i64 (.z 5))])) <|
.ret (.tup [(.int .i64 (.z (-9223372036854775808))), (.int .i64 (.z 0))])) <|
.ite (.not (.and (.cmp .eq (.v 1) (.z 0)) (.cmp .eq (.v 2) (.z 0)))) (.lett (.sub (.z 0) (.v 8)) <|
.ret (.tup [(.int .i64 (.v 18)), (.int .i64 (.z 0))])) <|
.ret (.tup [(.int .i64 (.v 8)), (.int .i64 (.z 0))])) <|
.ite (.cmp .lt (.z 0) (.v 7)) (.ret (.tup [(.int .i64 (.z 0)), (.int .i64 (.z 5))])) <|
.ite (.cmp .lt (.z 9223372036854775808) (.v 8)) (.ret (.tup [(.int .i64 (.z 0)), (.int .i64 (.z 5))])) <|
.ite (.cmp .eq (.v 8) (.z 9223372036854775808)) (.ite (.and (.cmp .eq (.v 1) (.z 0)) (.cmp .eq (.v 2) (.z 0))) (.ret (.tup [(.int .i64 (.z 0)), (.int .i64 (.z 5))])) <|
.ret (.tup [(.int .i64 (.z (-9223372036854775808))), (.int .i64 (.z 0))])) <|
.ite (.not (.and (.cmp .eq (.v 1) (.z 0)) (.cmp .eq (.v 2) (.z 0)))) (.lett (.sub (.z 0) (.v 8)) <|
.ret (.tup [(.int .i64 (.v 14)), (.int .i64 (.z 0))])) <|
.ret (.tup [(.int .i64 (.v 8)), (.int .i64 (.z 0))])) <|
.call 77 [.i (some (0, 18446744073709551615)), .i (some (0, 18446744073709551615))] [.i (.v 3)] <|
.call 76 [.i (some (0, 18446744073709551615)), .i (some (0, 18446744073709551615)), .i (some (0, 18446744073709551615)), .i (some (0, 18446744073709551615))] [.i (.v 1), .i (.v 2), .i (.v 5), .i (.v 6)] <|
.call 78 [.i (some (0, 18446744073709551615)), .i (some (0, 18446744073709551615)), .b] [.i (.v 9), .i (.v 10), .i (.v 9), .i (.v 10)] <|
.ite (.cmp .eq (.v 4) (.z 0)) (.ite (.cmp .lt (.z 0) (.v 7)) (.ret (.tup [(.int .i64 (.z 0)), (.int .i64 (.z 5))])) <|
.ite (.cmp .lt (.z 9223372036854775808) (.v 8)) (.ret (.tup [(.int .i64 (.z 0)), (.int .i64 (.z 5))])) <|
.ite (.cmp .eq (.v 8) (.z 9223372036854775808)) (.ret (.tup [(.int .i64 (.z 0)), (.int .i64 (.z 5))])) <|
.ret (.tup [(.int .i64 (.v 8)), (.int .i64 (.z 0))])) <|
.ite (.cmp .eq (.v 4) (.z 1)) (.ite (.not (.and (.cmp .eq (.v 9) (.z 0)) (.cmp .eq (.v 10) (.z 0)))) (.call 78 [.i (some (0, 18446744073709551615)), .i (some (0, 18446744073709551615)), .b] [.i (.v 7), .i (.v 8), .i (.z 0), .i (.z 1)] <|
.ite (.cmp .lt (.z 0) (.v 14)) (.ret (.tup [(.int .i64 (.z 0)), (.int .i64 (.z 5))])) <|
.ite (.cmp .lt (.z 9223372036854775808) (.v 15)) (.ret (.tup [(.int .i64 (.z 0)), (.int .i64 (.z 5))])) <|
.ite (.cmp .eq (.v 15) (.z 9223372036854775808)) (.ret (.tup [(.int .i64 (.z 0)), (.int .i64 (.z 5))])) <|
.ret (.tup [(.int .i64 (.v 15)), (.int .i64 (.z 0))])) <|
.ite (.cmp .lt (.z 0) (.v 7)) (.ret (.tup [(.int .i64 (.z 0)), (.int .i64 (.z 5))])) <|
.ite (.cmp .lt (.z 9223372036854775808) (.v 8)) (.ret (.tup [(.int .i64 (.z 0)), (.int .i64 (.z 5))])) <|
.ite (.cmp .eq (.v 8) (.z 9223372036854775808)) (.ret (.tup [(.int .i64 (.z 0)), (.int .i64 (.z 5))])) <|
.ret (.tup [(.int .i64 (.v 8)), (.int .i64 (.z 0))])) <|
.ite (.cmp .eq (.v 4) (.z 2)) (.call 77 [.i (some (0, 18446744073709551615)), .i (some (0, 18446744073709551615))] [.i (.v 3)] <|
.ite (.not (.cmp .eq (.v 14) (.v 11))) (.ite (.cmp .lt (.v 14) (.v 11)) (.call 78 [.i (some (0, 18446744073709551615)), .i (some (0, 18446744073709551615)), .b] [.i (.v 7), .i (.v 8), .i (.z 0), .i (.z 1)] <|
.ite (.cmp .lt (.z 0) (.v 16)) (.ret (.tup [(.int .i64 (.z 0)), (.int .i64 (.z 5))])) <|
.ite (.cmp .lt (.z 9223372036854775808) (.v 17)) (.ret (.tup [(.int .i64 (.z 0)), (.int .i64 (.z 5))])) <|
.ite (.cmp .eq (.v 17) (.z 9223372036854775808)) (.ret (.tup [(.int .i64 (.z 0)), (.int .i64 (.z 5))])) <|
.ret (.tup [(.int .i64 (.v 17)), (.int .i64 (.z 0))])) <|
.call 77 [.i (some (0, 18446744073709551615)), .i (some (0, 18446744073709551615))] [.i (.v 3)] <|
.ite (.and (.cmp .eq (.v 11) (.v 16)) (.cmp .eq (.v 12) (.v 17))) (.lett (.mod (.v 8) (.z 2)) <|
.ite (.cmp .eq (.v 18) (.z 1)) (.call 78 [.i (some (0, 18446744073709551615)), .i (some (0, 18446744073709551615)), .b] [.i (.v 7), .i (.v 8), .i (.z 0), .i (.z 1)] <|
.ite (.cmp .lt (.z 0) (.v 19)) (.ret (.tup [(.int .i64 (.z 0)), (.int .i64 (.z 5))])) <|
.ite (.cmp .lt (.z 9223372036854775808) (.v 20)) (.ret (.tup [(.int .i64 (.z 0)), (.int .i64 (.z 5))])) <|
.ite (.cmp .eq (.v 20) (.z 9223372036854775808)) (.ret (.tup [(.int .i64 (.z 0)), (.int .i64 (.z 5))])) <|
.ret (.tup [(.int .i64 (.v 20)), (.int .i64 (.z 0))])) <|
.ite (.cmp .lt (.z 0) (.v 7)) (.ret (.tup [(.int .i64 (.z 0)), (.int .i64 (.z 5))])) <|
.ite (.cmp .lt (.z 9223372036854775808) (.v 8)) (.ret (.tup [(.int .i64 (.z 0)), (.int .i64 (.z 5))])) <|
.ite (.cmp .eq (.v 8) (.z 9223372036854775808)) (.ret (.tup [(.int .i64 (.z 0)), (.int .i64 (.z 5))])) <|
.ret (.tup [(.int .i64 (.v 8)), (.int .i64 (.z 0))])) <|
.ite (.cmp .lt (.z 0) (.v 7)) (.ret (.tup [(.int .i64 (.z 0)), (.int .i64 (.z 5))])) <|
.ite (.cmp .lt (.z 9223372036854775808) (.v 8)) (.ret (.tup [(.int .i64 (.z 0)), (.int .i64 (.z 5))])) <|
.ite (.cmp .eq (.v 8) (.z 9223372036854775808)) (.ret (.tup [(.int .i64 (.z 0)), (.int .i64 (.z 5))])) <|
.ret (.tup [(.int .i64 (.v 8)), (.int .i64 (.z 0))])) <|
.ite (.cmp .lt (.v 15) (.v 12)) (.call 78 [.i (some (0, 18446744073709551615)), .i (some (0, 18446744073709551615)), .b] [.i (.v 7), .i (.v 8), .i (.z 0), .i (.z 1)] <|
.ite (.cmp .lt (.z 0) (.v 16)) (.ret (.tup [(.int .i64 (.z 0)), (.int .i64 (.z 5))])) <|
.ite (.cmp .lt (.z 9223372036854775808) (.v 17)) (.ret (.tup [(.int .i64 (.z 0)), (.int .i64 (.z 5))])) <|
.ite (.cmp .eq (.v 17) (.z 9223372036854775808)) (.ret (.tup [(.int .i64 (.z 0)), (.int .i64 (.z 5))])) <|
.ret (.tup [(.int .i64 (.v 17)), (.int .i64 (.z 0))])) <|
.call 77 [.i (some (0, 18446744073709551615)), .i (some (0, 18446744073709551615))] [.i (.v 3)] <|
.ite (.and (.cmp .eq (.v 11) (.v 16)) (.cmp .eq (.v 12) (.v 17))) (.lett (.mod (.v 8) (.z 2)) <|
.ite (.cmp .eq (.v 18) (.z 1)) (.call 78 [.i (some (0, 18446744073709551615)), .i (some (0, 18446744073709551615)), .b] [.i (.v 7), .i (.v 8), .i (.z 0), .i (.z 1)] <|
.ite (.cmp .lt (.z 0) (.v 19)) (.ret (.tup [(.int .i64 (.z 0)), (.int .i64 (.z 5))])) <|
.ite (.cmp .lt (.z 9223372036854775808) (.v 20)) (.ret (.tup [(.int .i64 (.z 0)), (.int .i64 (.z 5))])) <|
.ite (.cmp .eq (.v 20) (.z 9223372036854775808)) (.ret (.tup [(.int .i64 (.z 0)), (.int .i64 (.z 5))])) <|
.ret (.tup [(.int .i64 (.v 20)), (.int .i64 (.z 0))])) <|
.ite (.cmp .lt (.z 0) (.v 7)) (.ret (.tup [(.int .i64 (.z 0)), (.int .i64 (.z 5))])) <|
.ite (.cmp .lt (.z 9223372036854775808) (.v 8)) (.ret (.tup [(.int .i64 (.z 0)), (.int .i64 (.z 5))])) <|
.ite (.cmp .eq (.v 8) (.z 9223372036854775808)) (.ret (.tup [(.int .i64 (.z 0)), (.int .i64 (.z 5))])) <|
.ret (.tup [(.int .i64 (.v 8)), (.int .i64 (.z 0))])) <|
.ite (.cmp .lt (.z 0) (.v 7)) (.ret (.tup [(.int .i64 (.z 0)), (.int .i64 (.z 5))])) <|
.ite (.cmp .lt (.z 9223372036854775808) (.v 8)) (.ret (.tup [(.int .i64 (.z 0)), (.int .i64 (.z 5))])) <|
.ite (.cmp .eq (.v 8) (.z 9223372036854775808)) (.ret (.tup [(.int .i64 (.z 0)), (.int .i64 (.z 5))])) <|
.ret (.tup [(.int .i64 (.v 8)), (.int .i64 (.z 0))])) <|
.ite (.cmp .lt (.z 0) (.v 7)) (.ret (.tup [(.int .i64 (.z 0)), (.int .i64 (.z 5))])) <|
.ite (.cmp .lt (.z 9223372036854775808) (.v 8)) (.ret (.tup [(.int .i64 (.z 0)), (.int .i64 (.z 5))])) <|
.ite (.cmp .eq (.v 8) (.z 9223372036854775808)) (.ret (.tup [(.int .i64 (.z 0)), (.int .i64 (.z 5))])) <|
.ret (.tup [(.int .i64 (.v 8)), (.int .i64 (.z 0))])
noncomputable def r4divd_cx : Ctx := { tys := tys, fns := fns, mets := mets, sps := [(77, r4size_sp), (76, rdiv_sp), (78, radd_sp)], anns := [], trys := [] }
def r4divd_ivs : List (Option (Int × Int)) := [none, some (0, 18446744073709551615), some (0, 18446744073709551615), some ((-9223372036854775808), 9223372036854775807), some ((-9223372036854775808), 9223372036854775807)]
set_option maxRecDepth 100000 in
theorem r4divd_walk : runFn r4divd_cx 3000 58 Tryz.f58 r4divd_sp.args r4divd_ivs = r4divd_tree := by kernel_rfl
noncomputable def r4divd_M : Nat → SpecSem
  | 77 => r4size_sem
  | 76 => rdiv_sem
  | 78 => radd_sem
  | _ => noSem
theorem r4divd_M77 : r4divd_M 77 = r4size_sem := rfl
theorem r4divd_M76 : r4divd_M 76 = rdiv_sem := rfl
theorem r4divd_M78 : r4divd_M 78 = radd_sem := rfl
theorem r4divd_cxok : CxOK Tryz.prog r4divd_cx r4divd_M := ⟨tysOK, fnsOK, spCons r4size_ok <| spCons rdiv_ok <| spCons radd_ok <| fun _ _ h => spNil h, mixedOK, fun _ _ h => trNil h, fun _ _ h => atNil h, metsOK⟩

theorem below_neg {s : Bool} {c N : Int} (h : ¬ s = Cmp.lt.den c 0) : (if c < 0 then -(if s = true then -N else N) else (if s = true then -N else N)) = -N := by
  cases s <;> by_cases hc : c < 0 <;> simp [Cmp.den, hc] at h ⊢
theorem below_pos {s : Bool} {c N : Int} (h : s = Cmp.lt.den c 0) : (if c < 0 then -(if s = true then -N else N) else (if s = true then -N else N)) = N := by
  cases s <;> by_cases hc : c < 0 <;> simp [Cmp.den, hc] at h ⊢
/-- a number, divided by an int, and rounded -/
def mdT (T c m : Int) : Int := roundZ (if c < 0 then -T else T) (absZ c) m
def r4divd_sem : SpecSem := { pre := fun cs => match cs with | [.b s, .i m1, .i m0, .i c, .i md] => IsU m1 ∧ IsU m0 ∧ IsI c ∧ c ≠ 0 ∧ (0 ≤ md ∧ md ≤ 2) ∧ val m1 m0 ≤ 85070591730234615865843651857942052864 | _ => False, out := fun cs => match cs with | [.b s, .i m1, .i m0, .i c, .i md] => tell (mdT (if s = true then -(val m1 m0) else val m1 m0) c md) | _ => [] }
set_option maxHeartbeats 8000000 in
theorem r4divd_ok : SpecOK Tryz.prog 58 r4divd_sp r4divd_sem := by
  refine spec_of_tree r4divd_cxok Tryz.func58 (by kernel_rfl) (by kernel_rfl) r4divd_walk rfl ?_
  intro cs hpre
  match cs, hpre with
  | [.b s, .i m1, .i m0, .i c, .i md], ⟨⟨h1, h2⟩, ⟨h3, h4⟩, ⟨h5, h6⟩, hc, hmd, hN⟩ =>
    obtain ⟨z1, z2⟩ := absZ_le (a := c) ⟨h5, h6⟩
    have hN0 : 0 ≤ val m1 m0 := by unfold val; omega
    refine ⟨rfl, IvsB.ok (by simp only [r4divd_ivs, IvsB, Cv.int, and_true]; omega), ?_, ?_⟩
    · simp only [r4divd_sem, r4divd_sp, tell, Fits, and_true]; have := tell_fits (mdT (if s = true then -(val m1 m0) else val m1 m0) c md); omega
    · simp (config := { maxSteps := 4000000 }) only [r4divd_sem, r4size_sem, tell, r4divd_sp, IsU, cltEq, r4divd_tree, r4divd_M77, r4size_sem, r4divd_M76, rdiv_sem, r4divd_M78, radd_sem, Tree.den, LE.den, Cv.list, placeA, List.getElem?_cons_zero, List.getElem?_cons_succ, IE.den, BE.den, At.den, CA.den, Env.get, Cv.int, Cv.bool, List.cons_append, List.nil_append, List.map_cons, List.map_nil, bindRes, bindEq, Fits, SV.den, denL, place, placeL, eq_t, eq_f, lt_t, lt_f, le_t, le_f, beq_iff_eq, beq_eq_false_iff_ne, ne_eq, reduceCtorEq, b_dec, decide_eq_true_eq, decide_eq_false_iff_not, Bool.not_eq_false', Bool.or_eq_true, Bool.or_eq_false_iff, Bool.and_eq_false_iff, true_iff, false_iff, Bool.false_eq_true, Bool.not_eq_true', Bool.and_eq_true, Bool.not_true, Bool.not_false, List.cons.injEq, Cv.i.injEq, Cv.b.injEq, and_true, true_and, agg_inj, tup_inj, Value.int.injEq, Value.bool.injEq]
      have hCp : 0 < absZ c := by unfold absZ; split <;> omega
      have hz : (m1 = 0 ∧ m0 = 0) ↔ val m1 m0 = 0 := by unfold val; omega
      obtain ⟨Z, hZ⟩ : ∃ Z, mdT (if s = true then -(val m1 m0) else val m1 m0) c md = Z := ⟨_, rfl⟩
      have hneg : ¬ s = Cmp.lt.den c 0 → Z = roundZ (-(val m1 m0)) (absZ c) md := fun h => by rw [← hZ]; unfold mdT; rw [below_neg h]
      have hpos : s = Cmp.lt.den c 0 → Z = roundZ (val m1 m0) (absZ c) md := fun h => by rw [← hZ]; unfold mdT; rw [below_pos h]
      rw [hZ]
      clear hZ hpre
      generalize hNN : val m1 m0 = N at *
      have hd0 := Int.ediv_nonneg (b := absZ c) hN0 (by omega)
      have hQ := Int.ediv_le_self (a := N) (absZ c) hN0
      have hm0 := Int.emod_nonneg N (b := absZ c) (by omega)
      have hm1 := Int.emod_lt_of_pos N hCp
      have hq0 : N = 0 → N / absZ c = 0 ∧ N % absZ c = 0 := fun h => by rw [h]; exact ⟨Int.zero_ediv _, Int.zero_emod _⟩
      have dn := md_down (N := N) (Z := Z) hCp
      have up := md_up (N := N) (Z := Z) hCp
      have nr := md_near (N := N) (Z := Z) hCp
      refine ⟨fun hs => ?_, fun hs => ?_⟩
      · have hZ := hneg hs
        clear hneg hpos hs
        refine ⟨⟨h5, h6⟩, ?_⟩
        intro C1 hC1 _ _ C hC _ _
        subst hC1 hC
        generalize absZ c = C at *
        have hvC : val 0 C = C := r4val0 C
        refine ⟨by omega, ?_⟩
        intro q1 hq1 q10 q11 q0 hq0' q00 q01 r1 hr1 r10 r11 r0 hr0 r00 r01
        rw [divQ, hvC, hNN, if_neg (by omega)] at hq1 hq0'
        rw [divR, hvC, hNN, if_neg (by omega)] at hr1 hr0
        clear hNN
        generalize N / C = Q at *
        generalize N % C = R at *
        have eQ : val q1 q0 = Q := by unfold val; omega
        have eR : val r1 r0 = R := by unfold val; omega
        simp only [eQ, eR, hvC, r4val0]
        unfold val at eQ eR
        refine ⟨by omega, ?_⟩
        intro t1 ht1 t10 t11 t0 ht0 t00 t01
        have eT : val t1 t0 = R + R := by unfold val; omega
        unfold val at eT
        clear hq1 hq0' hr1 hr0 ht1 ht0 z1 z2 hvC
        have hmm : md = 0 ∨ md = 1 ∨ md = 2 := by omega
        simp only [IsI, wi64, wu64_mod, val]
        rcases hmm with rfl | rfl | rfl
        · have z := dn.2 hZ
          clear dn up nr hZ
          (repeat' (first | intro _ | refine And.intro ?_ ?_ | exact trivial)) <;> omega
        · have z := up.2 hZ
          clear dn up nr hZ
          (repeat' (first | intro _ | refine And.intro ?_ ?_ | exact trivial)) <;> omega
        · have z := nr.2 hZ
          clear dn up nr hZ
          (repeat' (first | intro _ | refine And.intro ?_ ?_ | exact trivial)) <;> omega
      · have hZ := hpos hs
        clear hneg hpos hs
        refine ⟨⟨h5, h6⟩, ?_⟩
        intro C1 hC1 _ _ C hC _ _
        subst hC1 hC
        generalize absZ c = C at *
        have hvC : val 0 C = C := r4val0 C
        refine ⟨by omega, ?_⟩
        intro q1 hq1 q10 q11 q0 hq0' q00 q01 r1 hr1 r10 r11 r0 hr0 r00 r01
        rw [divQ, hvC, hNN, if_neg (by omega)] at hq1 hq0'
        rw [divR, hvC, hNN, if_neg (by omega)] at hr1 hr0
        clear hNN
        generalize N / C = Q at *
        generalize N % C = R at *
        have eQ : val q1 q0 = Q := by unfold val; omega
        have eR : val r1 r0 = R := by unfold val; omega
        simp only [eQ, eR, hvC, r4val0]
        unfold val at eQ eR
        refine ⟨by omega, ?_⟩
        intro t1 ht1 t10 t11 t0 ht0 t00 t01
        have eT : val t1 t0 = R + R := by unfold val; omega
        unfold val at eT
        clear hq1 hq0' hr1 hr0 ht1 ht0 z1 z2 hvC
        have hmm : md = 0 ∨ md = 1 ∨ md = 2 := by omega
        simp only [IsI, wi64, wu64_mod, val]
        rcases hmm with rfl | rfl | rfl
        · have z := dn.1 hZ
          clear dn up nr hZ
          (repeat' (first | intro _ | refine And.intro ?_ ?_ | exact trivial)) <;> omega
        · have z := up.1 hZ
          clear dn up nr hZ
          (repeat' (first | intro _ | refine And.intro ?_ ?_ | exact trivial)) <;> omega
        · have z := nr.1 hZ
          clear dn up nr hZ
          (repeat' (first | intro _ | refine And.intro ?_ ?_ | exact trivial)) <;> omega
theorem mdT_mul {a b c m : Int} : mdT (a * b) c m = mdZ a b c m := rfl
theorem sgn_mul {a b : Int} : (if decide (a * b < 0) = true then -(absZ a * absZ b) else absZ a * absZ b) = a * b := by
  by_cases ha : a = 0
  · subst ha; simp [absZ]
  · by_cases hb : b = 0
    · subst hb; simp [absZ]
    · have h := sign_mul ha hb
      have hs := mul_neg_iff (a := a) (b := b)
      rw [h]
      have hp : 0 < absZ a * absZ b := Int.mul_pos (by unfold absZ; split <;> omega) (by unfold absZ; split <;> omega)
      generalize absZ a * absZ b = P at *
      by_cases c1 : (a < 0 ↔ b < 0)
      · simp only [c1, if_true]
        rw [if_neg (by simp; omega)]
      · simp only [c1, if_false]
        rw [if_pos (by simp; omega)]
def r4md_sp : SpecSh := { args := [(.int .i64 (.z 0)), (.int .i64 (.z 0)), (.int .i64 (.z 0)), (.int .i64 (.z 0))], res := (.tup [(.int .i64 (.z 0)), (.int .i64 (.z 0))]), sh := [.i (some ((-9223372036854775808), 9223372036854775807)), .i (some ((-9223372036854775808), 9223372036854775807))] }
set_option maxRecDepth 100000 in
def r4md_tree : Tree :=
.call 59 [.b, .i (some (0, 18446744073709551615)), .i (some (0, 18446744073709551615))] [.i (.v 0), .i (.v 1)] <|
.call 58 [.i (some ((-9223372036854775808), 9223372036854775807)), .i (some ((-9223372036854775808), 9223372036854775807))] [.b (.v 4), .i (.v 5), .i (.v 6), .i (.v 2), .i (.v 3)] <|
.ret (.tup [(.int .i64 (.v 7)), (.int .i64 (.v 8))])
noncomputable def r4md_cx : Ctx := { tys := tys, fns := fns, mets := mets, sps := [(59, r4prod_sp), (58, r4divd_sp)], anns := [], trys := [] }
def r4md_ivs : List (Option (Int × Int)) := [some ((-9223372036854775808), 9223372036854775807), some ((-9223372036854775808), 9223372036854775807), some ((-9223372036854775808), 9223372036854775807), some ((-9223372036854775808), 9223372036854775807)]
set_option maxRecDepth 100000 in
theorem r4md_walk : runFn r4md_cx 3000 37 Tryz.f37 r4md_sp.args r4md_ivs = r4md_tree := by kernel_rfl
noncomputable def r4md_M : Nat → SpecSem
  | 59 => r4prod_sem
  | 58 => r4divd_sem
  | _ => noSem
theorem r4md_M59 : r4md_M 59 = r4prod_sem := rfl
theorem r4md_M58 : r4md_M 58 = r4divd_sem := rfl
theorem r4md_cxok : CxOK Tryz.prog r4md_cx r4md_M := ⟨tysOK, fnsOK, spCons r4prod_ok <| spCons r4divd_ok <| fun _ _ h => spNil h, mixedOK, fun _ _ h => trNil h, fun _ _ h => atNil h, metsOK⟩

def r4md_sem : SpecSem := { pre := fun cs => match cs with | [.i a, .i b, .i c, .i m] => IsI a ∧ IsI b ∧ IsI c ∧ c ≠ 0 ∧ (0 ≤ m ∧ m ≤ 2) | _ => False, out := fun cs => match cs with | [.i a, .i b, .i c, .i m] => tell (mdZ a b c m) | _ => [] }
theorem r4md_ok : SpecOK Tryz.prog 37 r4md_sp r4md_sem := by
  refine spec_of_tree r4md_cxok Tryz.func37 (by kernel_rfl) (by kernel_rfl) r4md_walk rfl ?_
  intro cs hpre
  match cs, hpre with
  | [.i a, .i b, .i c, .i m], ⟨h1, h2, h3, hc, hm⟩ =>
    have hp := r4abs h1 h2
    have g3 : IsI c := h3
    have g1 : IsI a := h1
    have g2 : IsI b := h2
    unfold IsI at h1 h2 h3
    refine ⟨rfl, IvsB.ok (by simp only [r4md_ivs, IvsB, Cv.int, and_true]; omega), ?_, ?_⟩
    · simp only [r4md_sem, r4md_sp, tell, Fits, and_true]; have := tell_fits (mdZ a b c m); omega
    · simp only [r4md_sem, r4prod_sem, r4divd_sem, tell, r4md_sp, IsU, r4md_tree, r4md_M59, r4prod_sem, r4md_M58, r4divd_sem, Tree.den, LE.den, Cv.list, placeA, List.getElem?_cons_zero, List.getElem?_cons_succ, IE.den, BE.den, At.den, CA.den, Env.get, Cv.int, Cv.bool, List.cons_append, List.nil_append, List.map_cons, List.map_nil, bindRes, bindEq, Fits, SV.den, denL, place, placeL, eq_t, eq_f, lt_t, lt_f, le_t, le_f, beq_iff_eq, beq_eq_false_iff_ne, ne_eq, reduceCtorEq, b_dec, decide_eq_true_eq, decide_eq_false_iff_not, Bool.not_eq_false', Bool.or_eq_true, Bool.or_eq_false_iff, Bool.and_eq_false_iff, true_iff, false_iff, Bool.false_eq_true, Bool.not_eq_true', Bool.and_eq_true, Bool.not_true, Bool.not_false, List.cons.injEq, Cv.i.injEq, Cv.b.injEq, and_true, true_and, agg_inj, tup_inj, Value.int.injEq, Value.bool.injEq]
      refine ⟨⟨g1, g2⟩, ?_⟩
      intro p1 hp1 _ _ p0 hp0 _ _
      have e : val p1 p0 = absZ a * absZ b := by unfold val; omega
      have hs := sgn_mul (a := a) (b := b)
      simp only [decide_eq_true_eq] at hs
      rw [e, hs, mdT_mul]
      clear e hp1 hp0
      refine ⟨⟨by omega, by omega, g3, hc, hm, hp.2⟩, ?_⟩
      intro x hx _ _ y hy _ _
      exact ⟨hx, hy⟩
end Go.Proofs.YtglpelnaeipenaaGreat.X
