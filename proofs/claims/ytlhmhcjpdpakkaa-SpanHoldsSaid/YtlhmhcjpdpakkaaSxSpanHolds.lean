/-
  SpanHolds tells true, for every input.
-/
import Derived.Test.YtlhmhcjpdpakkaaSxSpanNum
namespace Go.Proofs.Ytlhmhcjpdpakkaa.X
open Go Go.SX Go.RowKit
set_option linter.unusedVariables false
set_option linter.unusedSimpArgs false










theorem f40 : ((4 : Int) = 0) = False := by simp
def lsholds_sp : SpecSh := { args := [(.int .i64 (.z 0)), (.int .i64 (.z 0)), (.int .i64 (.z 0)), (.int .i64 (.z 0)), (.int .i64 (.z 0)), (.int .i64 (.z 0))], res := (.bool .f), sh := [.b] }
set_option maxRecDepth 100000 in
def lsholds_tree : Tree :=
.lett (.ite (.cmp .lt (.v 1) (.v 0)) (.v 1) (.v 0)) <|
.lett (.ite (.cmp .lt (.v 1) (.v 0)) (.v 0) (.v 1)) <|
.lett (.ite (.cmp .lt (.v 2) (.v 7)) (.v 2) (.v 7)) <|
.lett (.ite (.cmp .lt (.v 2) (.v 7)) (.v 7) (.v 2)) <|
.lett (.ite (.cmp .lt (.v 8) (.v 6)) (.v 8) (.v 6)) <|
.lett (.ite (.cmp .lt (.v 8) (.v 6)) (.v 6) (.v 8)) <|
.lett (.ite (.cmp .lt (.v 4) (.v 3)) (.v 4) (.v 3)) <|
.lett (.ite (.cmp .lt (.v 4) (.v 3)) (.v 3) (.v 4)) <|
.lett (.ite (.cmp .lt (.v 5) (.v 13)) (.v 5) (.v 13)) <|
.lett (.ite (.cmp .lt (.v 5) (.v 13)) (.v 13) (.v 5)) <|
.lett (.ite (.cmp .lt (.v 14) (.v 12)) (.v 14) (.v 12)) <|
.lett (.ite (.cmp .lt (.v 14) (.v 12)) (.v 12) (.v 14)) <|
.ite (.not (.cmp .le (.v 10) (.v 9))) (.ret (.bool .f)) <|
.ite (.cmp .le (.v 10) (.v 11)) (.ite (.not (.cmp .le (.v 11) (.v 9))) (.ret (.bool .f)) <|
.ite (.cmp .le (.v 16) (.v 17)) (.ite (.not (.cmp .le (.v 17) (.v 15))) (.ret (.bool .f)) <|
.call 29 [.b] [] <|
.ite (.not (.v 18)) (.ret (.bool .f)) <|
.call 22 [.i (some ((-9223372036854775808), 9223372036854775807)), .i (some ((-9223372036854775808), 9223372036854775807)), .i (some ((-9223372036854775808), 9223372036854775807))] [.i (.v 10), .i (.v 9), .i (.v 16), .i (.v 15)] <|
.ite (.cmp .eq (.v 21) (.z 0)) (.call 25 [.i (some ((-9223372036854775808), 9223372036854775807)), .i (some ((-9223372036854775808), 9223372036854775807))] [.i (.v 11), .i (.v 17)] <|
.ite (.not (.cmp .eq (.v 23) (.z 0))) (.ret (.bool .f)) <|
.ite (.cmp .le (.v 19) (.v 22)) (.ite (.not (.cmp .le (.v 22) (.v 20))) (.ret (.bool .f)) <|
.call 23 [.i (some ((-9223372036854775808), 9223372036854775807)), .i (some ((-9223372036854775808), 9223372036854775807)), .i (some ((-9223372036854775808), 9223372036854775807))] [.i (.v 10), .i (.v 9), .i (.v 16), .i (.v 15)] <|
.ite (.cmp .eq (.v 26) (.z 0)) (.call 26 [.i (some ((-9223372036854775808), 9223372036854775807)), .i (some ((-9223372036854775808), 9223372036854775807))] [.i (.v 11), .i (.v 17)] <|
.ite (.not (.cmp .eq (.v 28) (.z 0))) (.ret (.bool .f)) <|
.ite (.cmp .le (.v 24) (.v 27)) (.ite (.not (.cmp .le (.v 27) (.v 25))) (.ret (.bool .f)) <|
.call 24 [.i (some ((-9223372036854775808), 9223372036854775807)), .i (some ((-9223372036854775808), 9223372036854775807)), .i (some ((-9223372036854775808), 9223372036854775807))] [.i (.v 10), .i (.v 9), .i (.v 16), .i (.v 15)] <|
.ite (.cmp .eq (.v 31) (.z 0)) (.call 27 [.i (some ((-9223372036854775808), 9223372036854775807)), .i (some ((-9223372036854775808), 9223372036854775807))] [.i (.v 11), .i (.v 17)] <|
.ite (.not (.cmp .eq (.v 33) (.z 0))) (.ret (.bool .f)) <|
.ite (.cmp .le (.v 29) (.v 32)) (.ite (.not (.cmp .le (.v 32) (.v 30))) (.ret (.bool .f)) <|
.call 48 [.i (some ((-9223372036854775808), 9223372036854775807)), .i (some ((-9223372036854775808), 9223372036854775807)), .i (some ((-9223372036854775808), 9223372036854775807))] [.i (.v 10), .i (.v 9), .i (.v 16), .i (.v 15)] <|
.ite (.not (.cmp .eq (.v 36) (.z 0))) (.ite (.cmp .le (.v 16) (.z 0)) (.ite (.eqv (.cmp .eq (.v 36) (.z 4)) (.cmp .le (.z 0) (.v 15))) (.ret (.bool (.and (.cmp .eq (.v 34) (.z 0)) (.cmp .eq (.v 35) (.z 0))))) <|
.ret (.bool .f)) <|
.ite (.not (.cmp .eq (.v 36) (.z 4))) (.ret (.bool (.and (.cmp .eq (.v 34) (.z 0)) (.cmp .eq (.v 35) (.z 0))))) <|
.ret (.bool .f)) <|
.call 49 [.i (some ((-9223372036854775808), 9223372036854775807)), .i (some ((-9223372036854775808), 9223372036854775807))] [.i (.v 11), .i (.z 1), .i (.v 17), .i (.z 0)] <|
.call 49 [.i (some ((-9223372036854775808), 9223372036854775807)), .i (some ((-9223372036854775808), 9223372036854775807))] [.i (.v 11), .i (.z 1), .i (.v 17), .i (.z 1)] <|
.ite (.cmp .eq (.v 38) (.z 0)) (.ite (.cmp .eq (.v 40) (.z 0)) (.ite (.cmp .le (.v 34) (.v 37)) (.ite (.cmp .le (.v 37) (.v 35)) (.ite (.cmp .le (.v 34) (.v 39)) (.ret (.bool (.cmp .le (.v 39) (.v 35)))) <|
.ret (.bool .f)) <|
.ret (.bool .f)) <|
.ret (.bool .f)) <|
.ret (.bool .f)) <|
.ret (.bool .f)) <|
.ret (.bool .f)) <|
.call 48 [.i (some ((-9223372036854775808), 9223372036854775807)), .i (some ((-9223372036854775808), 9223372036854775807)), .i (some ((-9223372036854775808), 9223372036854775807))] [.i (.v 10), .i (.v 9), .i (.v 16), .i (.v 15)] <|
.ite (.not (.cmp .eq (.v 34) (.z 0))) (.ite (.cmp .le (.v 16) (.z 0)) (.ite (.eqv (.cmp .eq (.v 34) (.z 4)) (.cmp .le (.z 0) (.v 15))) (.ret (.bool (.and (.cmp .eq (.v 32) (.z 0)) (.cmp .eq (.v 33) (.z 0))))) <|
.ret (.bool .f)) <|
.ite (.not (.cmp .eq (.v 34) (.z 4))) (.ret (.bool (.and (.cmp .eq (.v 32) (.z 0)) (.cmp .eq (.v 33) (.z 0))))) <|
.ret (.bool .f)) <|
.call 49 [.i (some ((-9223372036854775808), 9223372036854775807)), .i (some ((-9223372036854775808), 9223372036854775807))] [.i (.v 11), .i (.z 1), .i (.v 17), .i (.z 0)] <|
.call 49 [.i (some ((-9223372036854775808), 9223372036854775807)), .i (some ((-9223372036854775808), 9223372036854775807))] [.i (.v 11), .i (.z 1), .i (.v 17), .i (.z 1)] <|
.ite (.cmp .eq (.v 36) (.z 0)) (.ite (.cmp .eq (.v 38) (.z 0)) (.ite (.cmp .le (.v 32) (.v 35)) (.ite (.cmp .le (.v 35) (.v 33)) (.ite (.cmp .le (.v 32) (.v 37)) (.ret (.bool (.cmp .le (.v 37) (.v 33)))) <|
.ret (.bool .f)) <|
.ret (.bool .f)) <|
.ret (.bool .f)) <|
.ret (.bool .f)) <|
.ret (.bool .f)) <|
.ret (.bool .f)) <|
.call 24 [.i (some ((-9223372036854775808), 9223372036854775807)), .i (some ((-9223372036854775808), 9223372036854775807)), .i (some ((-9223372036854775808), 9223372036854775807))] [.i (.v 10), .i (.v 9), .i (.v 16), .i (.v 15)] <|
.ite (.cmp .eq (.v 29) (.z 0)) (.call 27 [.i (some ((-9223372036854775808), 9223372036854775807)), .i (some ((-9223372036854775808), 9223372036854775807))] [.i (.v 11), .i (.v 17)] <|
.ite (.not (.cmp .eq (.v 31) (.z 0))) (.ret (.bool .f)) <|
.ite (.cmp .le (.v 27) (.v 30)) (.ite (.not (.cmp .le (.v 30) (.v 28))) (.ret (.bool .f)) <|
.call 48 [.i (some ((-9223372036854775808), 9223372036854775807)), .i (some ((-9223372036854775808), 9223372036854775807)), .i (some ((-9223372036854775808), 9223372036854775807))] [.i (.v 10), .i (.v 9), .i (.v 16), .i (.v 15)] <|
.ite (.not (.cmp .eq (.v 34) (.z 0))) (.ite (.cmp .le (.v 16) (.z 0)) (.ite (.eqv (.cmp .eq (.v 34) (.z 4)) (.cmp .le (.z 0) (.v 15))) (.ret (.bool (.and (.cmp .eq (.v 32) (.z 0)) (.cmp .eq (.v 33) (.z 0))))) <|
.ret (.bool .f)) <|
.ite (.not (.cmp .eq (.v 34) (.z 4))) (.ret (.bool (.and (.cmp .eq (.v 32) (.z 0)) (.cmp .eq (.v 33) (.z 0))))) <|
.ret (.bool .f)) <|
.call 49 [.i (some ((-9223372036854775808), 9223372036854775807)), .i (some ((-9223372036854775808), 9223372036854775807))] [.i (.v 11), .i (.z 1), .i (.v 17), .i (.z 0)] <|
.call 49 [.i (some ((-9223372036854775808), 9223372036854775807)), .i (some ((-9223372036854775808), 9223372036854775807))] [.i (.v 11), .i (.z 1), .i (.v 17), .i (.z 1)] <|
.ite (.cmp .eq (.v 36) (.z 0)) (.ite (.cmp .eq (.v 38) (.z 0)) (.ite (.cmp .le (.v 32) (.v 35)) (.ite (.cmp .le (.v 35) (.v 33)) (.ite (.cmp .le (.v 32) (.v 37)) (.ret (.bool (.cmp .le (.v 37) (.v 33)))) <|
.ret (.bool .f)) <|
.ret (.bool .f)) <|
.ret (.bool .f)) <|
.ret (.bool .f)) <|
.ret (.bool .f)) <|
.ret (.bool .f)) <|
.call 48 [.i (some ((-9223372036854775808), 9223372036854775807)), .i (some ((-9223372036854775808), 9223372036854775807)), .i (some ((-9223372036854775808), 9223372036854775807))] [.i (.v 10), .i (.v 9), .i (.v 16), .i (.v 15)] <|
.ite (.not (.cmp .eq (.v 32) (.z 0))) (.ite (.cmp .le (.v 16) (.z 0)) (.ite (.eqv (.cmp .eq (.v 32) (.z 4)) (.cmp .le (.z 0) (.v 15))) (.ret (.bool (.and (.cmp .eq (.v 30) (.z 0)) (.cmp .eq (.v 31) (.z 0))))) <|
.ret (.bool .f)) <|
.ite (.not (.cmp .eq (.v 32) (.z 4))) (.ret (.bool (.and (.cmp .eq (.v 30) (.z 0)) (.cmp .eq (.v 31) (.z 0))))) <|
.ret (.bool .f)) <|
.call 49 [.i (some ((-9223372036854775808), 9223372036854775807)), .i (some ((-9223372036854775808), 9223372036854775807))] [.i (.v 11), .i (.z 1), .i (.v 17), .i (.z 0)] <|
.call 49 [.i (some ((-9223372036854775808), 9223372036854775807)), .i (some ((-9223372036854775808), 9223372036854775807))] [.i (.v 11), .i (.z 1), .i (.v 17), .i (.z 1)] <|
.ite (.cmp .eq (.v 34) (.z 0)) (.ite (.cmp .eq (.v 36) (.z 0)) (.ite (.cmp .le (.v 30) (.v 33)) (.ite (.cmp .le (.v 33) (.v 31)) (.ite (.cmp .le (.v 30) (.v 35)) (.ret (.bool (.cmp .le (.v 35) (.v 31)))) <|
.ret (.bool .f)) <|
.ret (.bool .f)) <|
.ret (.bool .f)) <|
.ret (.bool .f)) <|
.ret (.bool .f)) <|
.ret (.bool .f)) <|
.call 23 [.i (some ((-9223372036854775808), 9223372036854775807)), .i (some ((-9223372036854775808), 9223372036854775807)), .i (some ((-9223372036854775808), 9223372036854775807))] [.i (.v 10), .i (.v 9), .i (.v 16), .i (.v 15)] <|
.ite (.cmp .eq (.v 24) (.z 0)) (.call 26 [.i (some ((-9223372036854775808), 9223372036854775807)), .i (some ((-9223372036854775808), 9223372036854775807))] [.i (.v 11), .i (.v 17)] <|
.ite (.not (.cmp .eq (.v 26) (.z 0))) (.ret (.bool .f)) <|
.ite (.cmp .le (.v 22) (.v 25)) (.ite (.not (.cmp .le (.v 25) (.v 23))) (.ret (.bool .f)) <|
.call 24 [.i (some ((-9223372036854775808), 9223372036854775807)), .i (some ((-9223372036854775808), 9223372036854775807)), .i (some ((-9223372036854775808), 9223372036854775807))] [.i (.v 10), .i (.v 9), .i (.v 16), .i (.v 15)] <|
.ite (.cmp .eq (.v 29) (.z 0)) (.call 27 [.i (some ((-9223372036854775808), 9223372036854775807)), .i (some ((-9223372036854775808), 9223372036854775807))] [.i (.v 11), .i (.v 17)] <|
.ite (.not (.cmp .eq (.v 31) (.z 0))) (.ret (.bool .f)) <|
.ite (.cmp .le (.v 27) (.v 30)) (.ite (.not (.cmp .le (.v 30) (.v 28))) (.ret (.bool .f)) <|
.call 48 [.i (some ((-9223372036854775808), 9223372036854775807)), .i (some ((-9223372036854775808), 9223372036854775807)), .i (some ((-9223372036854775808), 9223372036854775807))] [.i (.v 10), .i (.v 9), .i (.v 16), .i (.v 15)] <|
.ite (.not (.cmp .eq (.v 34) (.z 0))) (.ite (.cmp .le (.v 16) (.z 0)) (.ite (.eqv (.cmp .eq (.v 34) (.z 4)) (.cmp .le (.z 0) (.v 15))) (.ret (.bool (.and (.cmp .eq (.v 32) (.z 0)) (.cmp .eq (.v 33) (.z 0))))) <|
.ret (.bool .f)) <|
.ite (.not (.cmp .eq (.v 34) (.z 4))) (.ret (.bool (.and (.cmp .eq (.v 32) (.z 0)) (.cmp .eq (.v 33) (.z 0))))) <|
.ret (.bool .f)) <|
.call 49 [.i (some ((-9223372036854775808), 9223372036854775807)), .i (some ((-9223372036854775808), 9223372036854775807))] [.i (.v 11), .i (.z 1), .i (.v 17), .i (.z 0)] <|
.call 49 [.i (some ((-9223372036854775808), 9223372036854775807)), .i (some ((-9223372036854775808), 9223372036854775807))] [.i (.v 11), .i (.z 1), .i (.v 17), .i (.z 1)] <|
.ite (.cmp .eq (.v 36) (.z 0)) (.ite (.cmp .eq (.v 38) (.z 0)) (.ite (.cmp .le (.v 32) (.v 35)) (.ite (.cmp .le (.v 35) (.v 33)) (.ite (.cmp .le (.v 32) (.v 37)) (.ret (.bool (.cmp .le (.v 37) (.v 33)))) <|
.ret (.bool .f)) <|
.ret (.bool .f)) <|
.ret (.bool .f)) <|
.ret (.bool .f)) <|
.ret (.bool .f)) <|
.ret (.bool .f)) <|
.call 48 [.i (some ((-9223372036854775808), 9223372036854775807)), .i (some ((-9223372036854775808), 9223372036854775807)), .i (some ((-9223372036854775808), 9223372036854775807))] [.i (.v 10), .i (.v 9), .i (.v 16), .i (.v 15)] <|
.ite (.not (.cmp .eq (.v 32) (.z 0))) (.ite (.cmp .le (.v 16) (.z 0)) (.ite (.eqv (.cmp .eq (.v 32) (.z 4)) (.cmp .le (.z 0) (.v 15))) (.ret (.bool (.and (.cmp .eq (.v 30) (.z 0)) (.cmp .eq (.v 31) (.z 0))))) <|
.ret (.bool .f)) <|
.ite (.not (.cmp .eq (.v 32) (.z 4))) (.ret (.bool (.and (.cmp .eq (.v 30) (.z 0)) (.cmp .eq (.v 31) (.z 0))))) <|
.ret (.bool .f)) <|
.call 49 [.i (some ((-9223372036854775808), 9223372036854775807)), .i (some ((-9223372036854775808), 9223372036854775807))] [.i (.v 11), .i (.z 1), .i (.v 17), .i (.z 0)] <|
.call 49 [.i (some ((-9223372036854775808), 9223372036854775807)), .i (some ((-9223372036854775808), 9223372036854775807))] [.i (.v 11), .i (.z 1), .i (.v 17), .i (.z 1)] <|
.ite (.cmp .eq (.v 34) (.z 0)) (.ite (.cmp .eq (.v 36) (.z 0)) (.ite (.cmp .le (.v 30) (.v 33)) (.ite (.cmp .le (.v 33) (.v 31)) (.ite (.cmp .le (.v 30) (.v 35)) (.ret (.bool (.cmp .le (.v 35) (.v 31)))) <|
.ret (.bool .f)) <|
.ret (.bool .f)) <|
.ret (.bool .f)) <|
.ret (.bool .f)) <|
.ret (.bool .f)) <|
.ret (.bool .f)) <|
.call 24 [.i (some ((-9223372036854775808), 9223372036854775807)), .i (some ((-9223372036854775808), 9223372036854775807)), .i (some ((-9223372036854775808), 9223372036854775807))] [.i (.v 10), .i (.v 9), .i (.v 16), .i (.v 15)] <|
.ite (.cmp .eq (.v 27) (.z 0)) (.call 27 [.i (some ((-9223372036854775808), 9223372036854775807)), .i (some ((-9223372036854775808), 9223372036854775807))] [.i (.v 11), .i (.v 17)] <|
.ite (.not (.cmp .eq (.v 29) (.z 0))) (.ret (.bool .f)) <|
.ite (.cmp .le (.v 25) (.v 28)) (.ite (.not (.cmp .le (.v 28) (.v 26))) (.ret (.bool .f)) <|
.call 48 [.i (some ((-9223372036854775808), 9223372036854775807)), .i (some ((-9223372036854775808), 9223372036854775807)), .i (some ((-9223372036854775808), 9223372036854775807))] [.i (.v 10), .i (.v 9), .i (.v 16), .i (.v 15)] <|
.ite (.not (.cmp .eq (.v 32) (.z 0))) (.ite (.cmp .le (.v 16) (.z 0)) (.ite (.eqv (.cmp .eq (.v 32) (.z 4)) (.cmp .le (.z 0) (.v 15))) (.ret (.bool (.and (.cmp .eq (.v 30) (.z 0)) (.cmp .eq (.v 31) (.z 0))))) <|
.ret (.bool .f)) <|
.ite (.not (.cmp .eq (.v 32) (.z 4))) (.ret (.bool (.and (.cmp .eq (.v 30) (.z 0)) (.cmp .eq (.v 31) (.z 0))))) <|
.ret (.bool .f)) <|
.call 49 [.i (some ((-9223372036854775808), 9223372036854775807)), .i (some ((-9223372036854775808), 9223372036854775807))] [.i (.v 11), .i (.z 1), .i (.v 17), .i (.z 0)] <|
.call 49 [.i (some ((-9223372036854775808), 9223372036854775807)), .i (some ((-9223372036854775808), 9223372036854775807))] [.i (.v 11), .i (.z 1), .i (.v 17), .i (.z 1)] <|
.ite (.cmp .eq (.v 34) (.z 0)) (.ite (.cmp .eq (.v 36) (.z 0)) (.ite (.cmp .le (.v 30) (.v 33)) (.ite (.cmp .le (.v 33) (.v 31)) (.ite (.cmp .le (.v 30) (.v 35)) (.ret (.bool (.cmp .le (.v 35) (.v 31)))) <|
.ret (.bool .f)) <|
.ret (.bool .f)) <|
.ret (.bool .f)) <|
.ret (.bool .f)) <|
.ret (.bool .f)) <|
.ret (.bool .f)) <|
.call 48 [.i (some ((-9223372036854775808), 9223372036854775807)), .i (some ((-9223372036854775808), 9223372036854775807)), .i (some ((-9223372036854775808), 9223372036854775807))] [.i (.v 10), .i (.v 9), .i (.v 16), .i (.v 15)] <|
.ite (.not (.cmp .eq (.v 30) (.z 0))) (.ite (.cmp .le (.v 16) (.z 0)) (.ite (.eqv (.cmp .eq (.v 30) (.z 4)) (.cmp .le (.z 0) (.v 15))) (.ret (.bool (.and (.cmp .eq (.v 28) (.z 0)) (.cmp .eq (.v 29) (.z 0))))) <|
.ret (.bool .f)) <|
.ite (.not (.cmp .eq (.v 30) (.z 4))) (.ret (.bool (.and (.cmp .eq (.v 28) (.z 0)) (.cmp .eq (.v 29) (.z 0))))) <|
.ret (.bool .f)) <|
.call 49 [.i (some ((-9223372036854775808), 9223372036854775807)), .i (some ((-9223372036854775808), 9223372036854775807))] [.i (.v 11), .i (.z 1), .i (.v 17), .i (.z 0)] <|
.call 49 [.i (some ((-9223372036854775808), 9223372036854775807)), .i (some ((-9223372036854775808), 9223372036854775807))] [.i (.v 11), .i (.z 1), .i (.v 17), .i (.z 1)] <|
.ite (.cmp .eq (.v 32) (.z 0)) (.ite (.cmp .eq (.v 34) (.z 0)) (.ite (.cmp .le (.v 28) (.v 31)) (.ite (.cmp .le (.v 31) (.v 29)) (.ite (.cmp .le (.v 28) (.v 33)) (.ret (.bool (.cmp .le (.v 33) (.v 29)))) <|
.ret (.bool .f)) <|
.ret (.bool .f)) <|
.ret (.bool .f)) <|
.ret (.bool .f)) <|
.ret (.bool .f)) <|
.ret (.bool .f)) <|
.ret (.bool .f)
noncomputable def lsholds_cx : Ctx := { tys := tys, fns := fns, sps := [(22, sadd_sp), (23, ssub_sp), (24, smul_sp), (48, sdiv_sp), (25, fadd_sp), (26, fsub_sp), (27, fmul_sp), (49, fmd_sp), (29, salive_sp)], anns := [], trys := [] }
def lsholds_ivs : List (Option (Int × Int)) := [some ((-9223372036854775808), 9223372036854775807), some ((-9223372036854775808), 9223372036854775807), some ((-9223372036854775808), 9223372036854775807), some ((-9223372036854775808), 9223372036854775807), some ((-9223372036854775808), 9223372036854775807), some ((-9223372036854775808), 9223372036854775807)]
set_option maxRecDepth 100000 in
theorem lsholds_walk : runFn lsholds_cx 3000 8 Try.f8 lsholds_sp.args lsholds_ivs = lsholds_tree := by kernel_rfl
noncomputable def lsholds_M : Nat → SpecSem
  | 22 => sadd_sem
  | 23 => ssub_sem
  | 24 => smul_sem
  | 48 => sdiv_sem
  | 25 => fadd_sem
  | 26 => fsub_sem
  | 27 => fmul_sem
  | 49 => fmd_sem
  | 29 => salive_sem
  | _ => noSem
theorem lsholds_M22 : lsholds_M 22 = sadd_sem := rfl
theorem lsholds_M23 : lsholds_M 23 = ssub_sem := rfl
theorem lsholds_M24 : lsholds_M 24 = smul_sem := rfl
theorem lsholds_M48 : lsholds_M 48 = sdiv_sem := rfl
theorem lsholds_M25 : lsholds_M 25 = fadd_sem := rfl
theorem lsholds_M26 : lsholds_M 26 = fsub_sem := rfl
theorem lsholds_M27 : lsholds_M 27 = fmul_sem := rfl
theorem lsholds_M49 : lsholds_M 49 = fmd_sem := rfl
theorem lsholds_M29 : lsholds_M 29 = salive_sem := rfl
theorem lsholds_cxok : CxOK Try.prog lsholds_cx lsholds_M := ⟨tysOK, fnsOK, spCons sadd_ok <| spCons ssub_ok <| spCons smul_ok <| spCons sdiv_ok <| spCons fadd_ok <| spCons fsub_ok <| spCons fmul_ok <| spCons fmd_ok <| spCons salive_ok <| fun _ _ h => spNil h, mixedOK, fun _ _ h => trNil h⟩
set_option maxRecDepth 100000 in
set_option maxHeartbeats 8000000 in
theorem lsholds_den (R RP : Value → Prop) (F : Ex → St → Js → Env → Prop) (J : Js) (x0 : Int) (x1 : Int) (x2 : Int) (x3 : Int) (x4 : Int) (x5 : Int) : Tree.den lsholds_M R RP F lsholds_tree J [(.i x0), (.i x1), (.i x2), (.i x3), (.i x4), (.i x5)] = (
  ∀ x6 : Int, x6 = (if (Cmp.den .lt x1 x0) = true then x1 else x0) →
∀ x7 : Int, x7 = (if (Cmp.den .lt x1 x0) = true then x0 else x1) →
∀ x8 : Int, x8 = (if (Cmp.den .lt x2 x7) = true then x2 else x7) →
∀ x9 : Int, x9 = (if (Cmp.den .lt x2 x7) = true then x7 else x2) →
∀ x10 : Int, x10 = (if (Cmp.den .lt x8 x6) = true then x8 else x6) →
∀ x11 : Int, x11 = (if (Cmp.den .lt x8 x6) = true then x6 else x8) →
∀ x12 : Int, x12 = (if (Cmp.den .lt x4 x3) = true then x4 else x3) →
∀ x13 : Int, x13 = (if (Cmp.den .lt x4 x3) = true then x3 else x4) →
∀ x14 : Int, x14 = (if (Cmp.den .lt x5 x13) = true then x5 else x13) →
∀ x15 : Int, x15 = (if (Cmp.den .lt x5 x13) = true then x13 else x5) →
∀ x16 : Int, x16 = (if (Cmp.den .lt x14 x12) = true then x14 else x12) →
∀ x17 : Int, x17 = (if (Cmp.den .lt x14 x12) = true then x12 else x14) →
((!(Cmp.den .le x10 x9)) = true → R (Value.bool false)) ∧ ((!(Cmp.den .le x10 x9)) = false → ((Cmp.den .le x10 x11) = true → ((!(Cmp.den .le x11 x9)) = true → R (Value.bool false)) ∧ ((!(Cmp.den .le x11 x9)) = false → ((Cmp.den .le x16 x17) = true → ((!(Cmp.den .le x17 x15)) = true → R (Value.bool false)) ∧ ((!(Cmp.den .le x17 x15)) = false → (salive_sem.pre []) ∧ (
((!(Cv.bool (Env.get (salive_sem.out []) 0))) = true → R (Value.bool false)) ∧ ((!(Cv.bool (Env.get (salive_sem.out []) 0))) = false → (sadd_sem.pre [(.i x10), (.i x9), (.i x16), (.i x15)]) ∧ (
∀ x19 : Int, x19 = (Cv.int (Env.get (sadd_sem.out [(.i x10), (.i x9), (.i x16), (.i x15)]) 0)) → (-9223372036854775808 : Int) ≤ x19 → x19 ≤ (9223372036854775807 : Int) →
∀ x20 : Int, x20 = (Cv.int (Env.get (sadd_sem.out [(.i x10), (.i x9), (.i x16), (.i x15)]) 1)) → (-9223372036854775808 : Int) ≤ x20 → x20 ≤ (9223372036854775807 : Int) →
∀ x21 : Int, x21 = (Cv.int (Env.get (sadd_sem.out [(.i x10), (.i x9), (.i x16), (.i x15)]) 2)) → (-9223372036854775808 : Int) ≤ x21 → x21 ≤ (9223372036854775807 : Int) →
((Cmp.den .eq x21 (0 : Int)) = true → (fadd_sem.pre [(.i x11), (.i x17)]) ∧ (
∀ x22 : Int, x22 = (Cv.int (Env.get (fadd_sem.out [(.i x11), (.i x17)]) 0)) → (-9223372036854775808 : Int) ≤ x22 → x22 ≤ (9223372036854775807 : Int) →
∀ x23 : Int, x23 = (Cv.int (Env.get (fadd_sem.out [(.i x11), (.i x17)]) 1)) → (-9223372036854775808 : Int) ≤ x23 → x23 ≤ (9223372036854775807 : Int) →
((!(Cmp.den .eq x23 (0 : Int))) = true → R (Value.bool false)) ∧ ((!(Cmp.den .eq x23 (0 : Int))) = false → ((Cmp.den .le x19 x22) = true → ((!(Cmp.den .le x22 x20)) = true → R (Value.bool false)) ∧ ((!(Cmp.den .le x22 x20)) = false → (ssub_sem.pre [(.i x10), (.i x9), (.i x16), (.i x15)]) ∧ (
∀ x24 : Int, x24 = (Cv.int (Env.get (ssub_sem.out [(.i x10), (.i x9), (.i x16), (.i x15)]) 0)) → (-9223372036854775808 : Int) ≤ x24 → x24 ≤ (9223372036854775807 : Int) →
∀ x25 : Int, x25 = (Cv.int (Env.get (ssub_sem.out [(.i x10), (.i x9), (.i x16), (.i x15)]) 1)) → (-9223372036854775808 : Int) ≤ x25 → x25 ≤ (9223372036854775807 : Int) →
∀ x26 : Int, x26 = (Cv.int (Env.get (ssub_sem.out [(.i x10), (.i x9), (.i x16), (.i x15)]) 2)) → (-9223372036854775808 : Int) ≤ x26 → x26 ≤ (9223372036854775807 : Int) →
((Cmp.den .eq x26 (0 : Int)) = true → (fsub_sem.pre [(.i x11), (.i x17)]) ∧ (
∀ x27 : Int, x27 = (Cv.int (Env.get (fsub_sem.out [(.i x11), (.i x17)]) 0)) → (-9223372036854775808 : Int) ≤ x27 → x27 ≤ (9223372036854775807 : Int) →
∀ x28 : Int, x28 = (Cv.int (Env.get (fsub_sem.out [(.i x11), (.i x17)]) 1)) → (-9223372036854775808 : Int) ≤ x28 → x28 ≤ (9223372036854775807 : Int) →
((!(Cmp.den .eq x28 (0 : Int))) = true → R (Value.bool false)) ∧ ((!(Cmp.den .eq x28 (0 : Int))) = false → ((Cmp.den .le x24 x27) = true → ((!(Cmp.den .le x27 x25)) = true → R (Value.bool false)) ∧ ((!(Cmp.den .le x27 x25)) = false → (smul_sem.pre [(.i x10), (.i x9), (.i x16), (.i x15)]) ∧ (
∀ x29 : Int, x29 = (Cv.int (Env.get (smul_sem.out [(.i x10), (.i x9), (.i x16), (.i x15)]) 0)) → (-9223372036854775808 : Int) ≤ x29 → x29 ≤ (9223372036854775807 : Int) →
∀ x30 : Int, x30 = (Cv.int (Env.get (smul_sem.out [(.i x10), (.i x9), (.i x16), (.i x15)]) 1)) → (-9223372036854775808 : Int) ≤ x30 → x30 ≤ (9223372036854775807 : Int) →
∀ x31 : Int, x31 = (Cv.int (Env.get (smul_sem.out [(.i x10), (.i x9), (.i x16), (.i x15)]) 2)) → (-9223372036854775808 : Int) ≤ x31 → x31 ≤ (9223372036854775807 : Int) →
((Cmp.den .eq x31 (0 : Int)) = true → (fmul_sem.pre [(.i x11), (.i x17)]) ∧ (
∀ x32 : Int, x32 = (Cv.int (Env.get (fmul_sem.out [(.i x11), (.i x17)]) 0)) → (-9223372036854775808 : Int) ≤ x32 → x32 ≤ (9223372036854775807 : Int) →
∀ x33 : Int, x33 = (Cv.int (Env.get (fmul_sem.out [(.i x11), (.i x17)]) 1)) → (-9223372036854775808 : Int) ≤ x33 → x33 ≤ (9223372036854775807 : Int) →
((!(Cmp.den .eq x33 (0 : Int))) = true → R (Value.bool false)) ∧ ((!(Cmp.den .eq x33 (0 : Int))) = false → ((Cmp.den .le x29 x32) = true → ((!(Cmp.den .le x32 x30)) = true → R (Value.bool false)) ∧ ((!(Cmp.den .le x32 x30)) = false → (sdiv_sem.pre [(.i x10), (.i x9), (.i x16), (.i x15)]) ∧ (
∀ x34 : Int, x34 = (Cv.int (Env.get (sdiv_sem.out [(.i x10), (.i x9), (.i x16), (.i x15)]) 0)) → (-9223372036854775808 : Int) ≤ x34 → x34 ≤ (9223372036854775807 : Int) →
∀ x35 : Int, x35 = (Cv.int (Env.get (sdiv_sem.out [(.i x10), (.i x9), (.i x16), (.i x15)]) 1)) → (-9223372036854775808 : Int) ≤ x35 → x35 ≤ (9223372036854775807 : Int) →
∀ x36 : Int, x36 = (Cv.int (Env.get (sdiv_sem.out [(.i x10), (.i x9), (.i x16), (.i x15)]) 2)) → (-9223372036854775808 : Int) ≤ x36 → x36 ≤ (9223372036854775807 : Int) →
((!(Cmp.den .eq x36 (0 : Int))) = true → ((Cmp.den .le x16 (0 : Int)) = true → (((Cmp.den .eq x36 (4 : Int)) == (Cmp.den .le (0 : Int) x15)) = true → R (Value.bool ((Cmp.den .eq x34 (0 : Int)) && (Cmp.den .eq x35 (0 : Int))))) ∧ (((Cmp.den .eq x36 (4 : Int)) == (Cmp.den .le (0 : Int) x15)) = false → R (Value.bool false))) ∧ ((Cmp.den .le x16 (0 : Int)) = false → ((!(Cmp.den .eq x36 (4 : Int))) = true → R (Value.bool ((Cmp.den .eq x34 (0 : Int)) && (Cmp.den .eq x35 (0 : Int))))) ∧ ((!(Cmp.den .eq x36 (4 : Int))) = false → R (Value.bool false)))) ∧ ((!(Cmp.den .eq x36 (0 : Int))) = false → (fmd_sem.pre [(.i x11), (.i (1 : Int)), (.i x17), (.i (0 : Int))]) ∧ (
∀ x37 : Int, x37 = (Cv.int (Env.get (fmd_sem.out [(.i x11), (.i (1 : Int)), (.i x17), (.i (0 : Int))]) 0)) → (-9223372036854775808 : Int) ≤ x37 → x37 ≤ (9223372036854775807 : Int) →
∀ x38 : Int, x38 = (Cv.int (Env.get (fmd_sem.out [(.i x11), (.i (1 : Int)), (.i x17), (.i (0 : Int))]) 1)) → (-9223372036854775808 : Int) ≤ x38 → x38 ≤ (9223372036854775807 : Int) →
(fmd_sem.pre [(.i x11), (.i (1 : Int)), (.i x17), (.i (1 : Int))]) ∧ (
∀ x39 : Int, x39 = (Cv.int (Env.get (fmd_sem.out [(.i x11), (.i (1 : Int)), (.i x17), (.i (1 : Int))]) 0)) → (-9223372036854775808 : Int) ≤ x39 → x39 ≤ (9223372036854775807 : Int) →
∀ x40 : Int, x40 = (Cv.int (Env.get (fmd_sem.out [(.i x11), (.i (1 : Int)), (.i x17), (.i (1 : Int))]) 1)) → (-9223372036854775808 : Int) ≤ x40 → x40 ≤ (9223372036854775807 : Int) →
((Cmp.den .eq x38 (0 : Int)) = true → ((Cmp.den .eq x40 (0 : Int)) = true → ((Cmp.den .le x34 x37) = true → ((Cmp.den .le x37 x35) = true → ((Cmp.den .le x34 x39) = true → R (Value.bool (Cmp.den .le x39 x35))) ∧ ((Cmp.den .le x34 x39) = false → R (Value.bool false))) ∧ ((Cmp.den .le x37 x35) = false → R (Value.bool false))) ∧ ((Cmp.den .le x34 x37) = false → R (Value.bool false))) ∧ ((Cmp.den .eq x40 (0 : Int)) = false → R (Value.bool false))) ∧ ((Cmp.den .eq x38 (0 : Int)) = false → R (Value.bool false)))))))) ∧ ((Cmp.den .le x29 x32) = false → R (Value.bool false))))) ∧ ((Cmp.den .eq x31 (0 : Int)) = false → (sdiv_sem.pre [(.i x10), (.i x9), (.i x16), (.i x15)]) ∧ (
∀ x32 : Int, x32 = (Cv.int (Env.get (sdiv_sem.out [(.i x10), (.i x9), (.i x16), (.i x15)]) 0)) → (-9223372036854775808 : Int) ≤ x32 → x32 ≤ (9223372036854775807 : Int) →
∀ x33 : Int, x33 = (Cv.int (Env.get (sdiv_sem.out [(.i x10), (.i x9), (.i x16), (.i x15)]) 1)) → (-9223372036854775808 : Int) ≤ x33 → x33 ≤ (9223372036854775807 : Int) →
∀ x34 : Int, x34 = (Cv.int (Env.get (sdiv_sem.out [(.i x10), (.i x9), (.i x16), (.i x15)]) 2)) → (-9223372036854775808 : Int) ≤ x34 → x34 ≤ (9223372036854775807 : Int) →
((!(Cmp.den .eq x34 (0 : Int))) = true → ((Cmp.den .le x16 (0 : Int)) = true → (((Cmp.den .eq x34 (4 : Int)) == (Cmp.den .le (0 : Int) x15)) = true → R (Value.bool ((Cmp.den .eq x32 (0 : Int)) && (Cmp.den .eq x33 (0 : Int))))) ∧ (((Cmp.den .eq x34 (4 : Int)) == (Cmp.den .le (0 : Int) x15)) = false → R (Value.bool false))) ∧ ((Cmp.den .le x16 (0 : Int)) = false → ((!(Cmp.den .eq x34 (4 : Int))) = true → R (Value.bool ((Cmp.den .eq x32 (0 : Int)) && (Cmp.den .eq x33 (0 : Int))))) ∧ ((!(Cmp.den .eq x34 (4 : Int))) = false → R (Value.bool false)))) ∧ ((!(Cmp.den .eq x34 (0 : Int))) = false → (fmd_sem.pre [(.i x11), (.i (1 : Int)), (.i x17), (.i (0 : Int))]) ∧ (
∀ x35 : Int, x35 = (Cv.int (Env.get (fmd_sem.out [(.i x11), (.i (1 : Int)), (.i x17), (.i (0 : Int))]) 0)) → (-9223372036854775808 : Int) ≤ x35 → x35 ≤ (9223372036854775807 : Int) →
∀ x36 : Int, x36 = (Cv.int (Env.get (fmd_sem.out [(.i x11), (.i (1 : Int)), (.i x17), (.i (0 : Int))]) 1)) → (-9223372036854775808 : Int) ≤ x36 → x36 ≤ (9223372036854775807 : Int) →
(fmd_sem.pre [(.i x11), (.i (1 : Int)), (.i x17), (.i (1 : Int))]) ∧ (
∀ x37 : Int, x37 = (Cv.int (Env.get (fmd_sem.out [(.i x11), (.i (1 : Int)), (.i x17), (.i (1 : Int))]) 0)) → (-9223372036854775808 : Int) ≤ x37 → x37 ≤ (9223372036854775807 : Int) →
∀ x38 : Int, x38 = (Cv.int (Env.get (fmd_sem.out [(.i x11), (.i (1 : Int)), (.i x17), (.i (1 : Int))]) 1)) → (-9223372036854775808 : Int) ≤ x38 → x38 ≤ (9223372036854775807 : Int) →
((Cmp.den .eq x36 (0 : Int)) = true → ((Cmp.den .eq x38 (0 : Int)) = true → ((Cmp.den .le x32 x35) = true → ((Cmp.den .le x35 x33) = true → ((Cmp.den .le x32 x37) = true → R (Value.bool (Cmp.den .le x37 x33))) ∧ ((Cmp.den .le x32 x37) = false → R (Value.bool false))) ∧ ((Cmp.den .le x35 x33) = false → R (Value.bool false))) ∧ ((Cmp.den .le x32 x35) = false → R (Value.bool false))) ∧ ((Cmp.den .eq x38 (0 : Int)) = false → R (Value.bool false))) ∧ ((Cmp.den .eq x36 (0 : Int)) = false → R (Value.bool false)))))))))) ∧ ((Cmp.den .le x24 x27) = false → R (Value.bool false))))) ∧ ((Cmp.den .eq x26 (0 : Int)) = false → (smul_sem.pre [(.i x10), (.i x9), (.i x16), (.i x15)]) ∧ (
∀ x27 : Int, x27 = (Cv.int (Env.get (smul_sem.out [(.i x10), (.i x9), (.i x16), (.i x15)]) 0)) → (-9223372036854775808 : Int) ≤ x27 → x27 ≤ (9223372036854775807 : Int) →
∀ x28 : Int, x28 = (Cv.int (Env.get (smul_sem.out [(.i x10), (.i x9), (.i x16), (.i x15)]) 1)) → (-9223372036854775808 : Int) ≤ x28 → x28 ≤ (9223372036854775807 : Int) →
∀ x29 : Int, x29 = (Cv.int (Env.get (smul_sem.out [(.i x10), (.i x9), (.i x16), (.i x15)]) 2)) → (-9223372036854775808 : Int) ≤ x29 → x29 ≤ (9223372036854775807 : Int) →
((Cmp.den .eq x29 (0 : Int)) = true → (fmul_sem.pre [(.i x11), (.i x17)]) ∧ (
∀ x30 : Int, x30 = (Cv.int (Env.get (fmul_sem.out [(.i x11), (.i x17)]) 0)) → (-9223372036854775808 : Int) ≤ x30 → x30 ≤ (9223372036854775807 : Int) →
∀ x31 : Int, x31 = (Cv.int (Env.get (fmul_sem.out [(.i x11), (.i x17)]) 1)) → (-9223372036854775808 : Int) ≤ x31 → x31 ≤ (9223372036854775807 : Int) →
((!(Cmp.den .eq x31 (0 : Int))) = true → R (Value.bool false)) ∧ ((!(Cmp.den .eq x31 (0 : Int))) = false → ((Cmp.den .le x27 x30) = true → ((!(Cmp.den .le x30 x28)) = true → R (Value.bool false)) ∧ ((!(Cmp.den .le x30 x28)) = false → (sdiv_sem.pre [(.i x10), (.i x9), (.i x16), (.i x15)]) ∧ (
∀ x32 : Int, x32 = (Cv.int (Env.get (sdiv_sem.out [(.i x10), (.i x9), (.i x16), (.i x15)]) 0)) → (-9223372036854775808 : Int) ≤ x32 → x32 ≤ (9223372036854775807 : Int) →
∀ x33 : Int, x33 = (Cv.int (Env.get (sdiv_sem.out [(.i x10), (.i x9), (.i x16), (.i x15)]) 1)) → (-9223372036854775808 : Int) ≤ x33 → x33 ≤ (9223372036854775807 : Int) →
∀ x34 : Int, x34 = (Cv.int (Env.get (sdiv_sem.out [(.i x10), (.i x9), (.i x16), (.i x15)]) 2)) → (-9223372036854775808 : Int) ≤ x34 → x34 ≤ (9223372036854775807 : Int) →
((!(Cmp.den .eq x34 (0 : Int))) = true → ((Cmp.den .le x16 (0 : Int)) = true → (((Cmp.den .eq x34 (4 : Int)) == (Cmp.den .le (0 : Int) x15)) = true → R (Value.bool ((Cmp.den .eq x32 (0 : Int)) && (Cmp.den .eq x33 (0 : Int))))) ∧ (((Cmp.den .eq x34 (4 : Int)) == (Cmp.den .le (0 : Int) x15)) = false → R (Value.bool false))) ∧ ((Cmp.den .le x16 (0 : Int)) = false → ((!(Cmp.den .eq x34 (4 : Int))) = true → R (Value.bool ((Cmp.den .eq x32 (0 : Int)) && (Cmp.den .eq x33 (0 : Int))))) ∧ ((!(Cmp.den .eq x34 (4 : Int))) = false → R (Value.bool false)))) ∧ ((!(Cmp.den .eq x34 (0 : Int))) = false → (fmd_sem.pre [(.i x11), (.i (1 : Int)), (.i x17), (.i (0 : Int))]) ∧ (
∀ x35 : Int, x35 = (Cv.int (Env.get (fmd_sem.out [(.i x11), (.i (1 : Int)), (.i x17), (.i (0 : Int))]) 0)) → (-9223372036854775808 : Int) ≤ x35 → x35 ≤ (9223372036854775807 : Int) →
∀ x36 : Int, x36 = (Cv.int (Env.get (fmd_sem.out [(.i x11), (.i (1 : Int)), (.i x17), (.i (0 : Int))]) 1)) → (-9223372036854775808 : Int) ≤ x36 → x36 ≤ (9223372036854775807 : Int) →
(fmd_sem.pre [(.i x11), (.i (1 : Int)), (.i x17), (.i (1 : Int))]) ∧ (
∀ x37 : Int, x37 = (Cv.int (Env.get (fmd_sem.out [(.i x11), (.i (1 : Int)), (.i x17), (.i (1 : Int))]) 0)) → (-9223372036854775808 : Int) ≤ x37 → x37 ≤ (9223372036854775807 : Int) →
∀ x38 : Int, x38 = (Cv.int (Env.get (fmd_sem.out [(.i x11), (.i (1 : Int)), (.i x17), (.i (1 : Int))]) 1)) → (-9223372036854775808 : Int) ≤ x38 → x38 ≤ (9223372036854775807 : Int) →
((Cmp.den .eq x36 (0 : Int)) = true → ((Cmp.den .eq x38 (0 : Int)) = true → ((Cmp.den .le x32 x35) = true → ((Cmp.den .le x35 x33) = true → ((Cmp.den .le x32 x37) = true → R (Value.bool (Cmp.den .le x37 x33))) ∧ ((Cmp.den .le x32 x37) = false → R (Value.bool false))) ∧ ((Cmp.den .le x35 x33) = false → R (Value.bool false))) ∧ ((Cmp.den .le x32 x35) = false → R (Value.bool false))) ∧ ((Cmp.den .eq x38 (0 : Int)) = false → R (Value.bool false))) ∧ ((Cmp.den .eq x36 (0 : Int)) = false → R (Value.bool false)))))))) ∧ ((Cmp.den .le x27 x30) = false → R (Value.bool false))))) ∧ ((Cmp.den .eq x29 (0 : Int)) = false → (sdiv_sem.pre [(.i x10), (.i x9), (.i x16), (.i x15)]) ∧ (
∀ x30 : Int, x30 = (Cv.int (Env.get (sdiv_sem.out [(.i x10), (.i x9), (.i x16), (.i x15)]) 0)) → (-9223372036854775808 : Int) ≤ x30 → x30 ≤ (9223372036854775807 : Int) →
∀ x31 : Int, x31 = (Cv.int (Env.get (sdiv_sem.out [(.i x10), (.i x9), (.i x16), (.i x15)]) 1)) → (-9223372036854775808 : Int) ≤ x31 → x31 ≤ (9223372036854775807 : Int) →
∀ x32 : Int, x32 = (Cv.int (Env.get (sdiv_sem.out [(.i x10), (.i x9), (.i x16), (.i x15)]) 2)) → (-9223372036854775808 : Int) ≤ x32 → x32 ≤ (9223372036854775807 : Int) →
((!(Cmp.den .eq x32 (0 : Int))) = true → ((Cmp.den .le x16 (0 : Int)) = true → (((Cmp.den .eq x32 (4 : Int)) == (Cmp.den .le (0 : Int) x15)) = true → R (Value.bool ((Cmp.den .eq x30 (0 : Int)) && (Cmp.den .eq x31 (0 : Int))))) ∧ (((Cmp.den .eq x32 (4 : Int)) == (Cmp.den .le (0 : Int) x15)) = false → R (Value.bool false))) ∧ ((Cmp.den .le x16 (0 : Int)) = false → ((!(Cmp.den .eq x32 (4 : Int))) = true → R (Value.bool ((Cmp.den .eq x30 (0 : Int)) && (Cmp.den .eq x31 (0 : Int))))) ∧ ((!(Cmp.den .eq x32 (4 : Int))) = false → R (Value.bool false)))) ∧ ((!(Cmp.den .eq x32 (0 : Int))) = false → (fmd_sem.pre [(.i x11), (.i (1 : Int)), (.i x17), (.i (0 : Int))]) ∧ (
∀ x33 : Int, x33 = (Cv.int (Env.get (fmd_sem.out [(.i x11), (.i (1 : Int)), (.i x17), (.i (0 : Int))]) 0)) → (-9223372036854775808 : Int) ≤ x33 → x33 ≤ (9223372036854775807 : Int) →
∀ x34 : Int, x34 = (Cv.int (Env.get (fmd_sem.out [(.i x11), (.i (1 : Int)), (.i x17), (.i (0 : Int))]) 1)) → (-9223372036854775808 : Int) ≤ x34 → x34 ≤ (9223372036854775807 : Int) →
(fmd_sem.pre [(.i x11), (.i (1 : Int)), (.i x17), (.i (1 : Int))]) ∧ (
∀ x35 : Int, x35 = (Cv.int (Env.get (fmd_sem.out [(.i x11), (.i (1 : Int)), (.i x17), (.i (1 : Int))]) 0)) → (-9223372036854775808 : Int) ≤ x35 → x35 ≤ (9223372036854775807 : Int) →
∀ x36 : Int, x36 = (Cv.int (Env.get (fmd_sem.out [(.i x11), (.i (1 : Int)), (.i x17), (.i (1 : Int))]) 1)) → (-9223372036854775808 : Int) ≤ x36 → x36 ≤ (9223372036854775807 : Int) →
((Cmp.den .eq x34 (0 : Int)) = true → ((Cmp.den .eq x36 (0 : Int)) = true → ((Cmp.den .le x30 x33) = true → ((Cmp.den .le x33 x31) = true → ((Cmp.den .le x30 x35) = true → R (Value.bool (Cmp.den .le x35 x31))) ∧ ((Cmp.den .le x30 x35) = false → R (Value.bool false))) ∧ ((Cmp.den .le x33 x31) = false → R (Value.bool false))) ∧ ((Cmp.den .le x30 x33) = false → R (Value.bool false))) ∧ ((Cmp.den .eq x36 (0 : Int)) = false → R (Value.bool false))) ∧ ((Cmp.den .eq x34 (0 : Int)) = false → R (Value.bool false)))))))))))) ∧ ((Cmp.den .le x19 x22) = false → R (Value.bool false))))) ∧ ((Cmp.den .eq x21 (0 : Int)) = false → (ssub_sem.pre [(.i x10), (.i x9), (.i x16), (.i x15)]) ∧ (
∀ x22 : Int, x22 = (Cv.int (Env.get (ssub_sem.out [(.i x10), (.i x9), (.i x16), (.i x15)]) 0)) → (-9223372036854775808 : Int) ≤ x22 → x22 ≤ (9223372036854775807 : Int) →
∀ x23 : Int, x23 = (Cv.int (Env.get (ssub_sem.out [(.i x10), (.i x9), (.i x16), (.i x15)]) 1)) → (-9223372036854775808 : Int) ≤ x23 → x23 ≤ (9223372036854775807 : Int) →
∀ x24 : Int, x24 = (Cv.int (Env.get (ssub_sem.out [(.i x10), (.i x9), (.i x16), (.i x15)]) 2)) → (-9223372036854775808 : Int) ≤ x24 → x24 ≤ (9223372036854775807 : Int) →
((Cmp.den .eq x24 (0 : Int)) = true → (fsub_sem.pre [(.i x11), (.i x17)]) ∧ (
∀ x25 : Int, x25 = (Cv.int (Env.get (fsub_sem.out [(.i x11), (.i x17)]) 0)) → (-9223372036854775808 : Int) ≤ x25 → x25 ≤ (9223372036854775807 : Int) →
∀ x26 : Int, x26 = (Cv.int (Env.get (fsub_sem.out [(.i x11), (.i x17)]) 1)) → (-9223372036854775808 : Int) ≤ x26 → x26 ≤ (9223372036854775807 : Int) →
((!(Cmp.den .eq x26 (0 : Int))) = true → R (Value.bool false)) ∧ ((!(Cmp.den .eq x26 (0 : Int))) = false → ((Cmp.den .le x22 x25) = true → ((!(Cmp.den .le x25 x23)) = true → R (Value.bool false)) ∧ ((!(Cmp.den .le x25 x23)) = false → (smul_sem.pre [(.i x10), (.i x9), (.i x16), (.i x15)]) ∧ (
∀ x27 : Int, x27 = (Cv.int (Env.get (smul_sem.out [(.i x10), (.i x9), (.i x16), (.i x15)]) 0)) → (-9223372036854775808 : Int) ≤ x27 → x27 ≤ (9223372036854775807 : Int) →
∀ x28 : Int, x28 = (Cv.int (Env.get (smul_sem.out [(.i x10), (.i x9), (.i x16), (.i x15)]) 1)) → (-9223372036854775808 : Int) ≤ x28 → x28 ≤ (9223372036854775807 : Int) →
∀ x29 : Int, x29 = (Cv.int (Env.get (smul_sem.out [(.i x10), (.i x9), (.i x16), (.i x15)]) 2)) → (-9223372036854775808 : Int) ≤ x29 → x29 ≤ (9223372036854775807 : Int) →
((Cmp.den .eq x29 (0 : Int)) = true → (fmul_sem.pre [(.i x11), (.i x17)]) ∧ (
∀ x30 : Int, x30 = (Cv.int (Env.get (fmul_sem.out [(.i x11), (.i x17)]) 0)) → (-9223372036854775808 : Int) ≤ x30 → x30 ≤ (9223372036854775807 : Int) →
∀ x31 : Int, x31 = (Cv.int (Env.get (fmul_sem.out [(.i x11), (.i x17)]) 1)) → (-9223372036854775808 : Int) ≤ x31 → x31 ≤ (9223372036854775807 : Int) →
((!(Cmp.den .eq x31 (0 : Int))) = true → R (Value.bool false)) ∧ ((!(Cmp.den .eq x31 (0 : Int))) = false → ((Cmp.den .le x27 x30) = true → ((!(Cmp.den .le x30 x28)) = true → R (Value.bool false)) ∧ ((!(Cmp.den .le x30 x28)) = false → (sdiv_sem.pre [(.i x10), (.i x9), (.i x16), (.i x15)]) ∧ (
∀ x32 : Int, x32 = (Cv.int (Env.get (sdiv_sem.out [(.i x10), (.i x9), (.i x16), (.i x15)]) 0)) → (-9223372036854775808 : Int) ≤ x32 → x32 ≤ (9223372036854775807 : Int) →
∀ x33 : Int, x33 = (Cv.int (Env.get (sdiv_sem.out [(.i x10), (.i x9), (.i x16), (.i x15)]) 1)) → (-9223372036854775808 : Int) ≤ x33 → x33 ≤ (9223372036854775807 : Int) →
∀ x34 : Int, x34 = (Cv.int (Env.get (sdiv_sem.out [(.i x10), (.i x9), (.i x16), (.i x15)]) 2)) → (-9223372036854775808 : Int) ≤ x34 → x34 ≤ (9223372036854775807 : Int) →
((!(Cmp.den .eq x34 (0 : Int))) = true → ((Cmp.den .le x16 (0 : Int)) = true → (((Cmp.den .eq x34 (4 : Int)) == (Cmp.den .le (0 : Int) x15)) = true → R (Value.bool ((Cmp.den .eq x32 (0 : Int)) && (Cmp.den .eq x33 (0 : Int))))) ∧ (((Cmp.den .eq x34 (4 : Int)) == (Cmp.den .le (0 : Int) x15)) = false → R (Value.bool false))) ∧ ((Cmp.den .le x16 (0 : Int)) = false → ((!(Cmp.den .eq x34 (4 : Int))) = true → R (Value.bool ((Cmp.den .eq x32 (0 : Int)) && (Cmp.den .eq x33 (0 : Int))))) ∧ ((!(Cmp.den .eq x34 (4 : Int))) = false → R (Value.bool false)))) ∧ ((!(Cmp.den .eq x34 (0 : Int))) = false → (fmd_sem.pre [(.i x11), (.i (1 : Int)), (.i x17), (.i (0 : Int))]) ∧ (
∀ x35 : Int, x35 = (Cv.int (Env.get (fmd_sem.out [(.i x11), (.i (1 : Int)), (.i x17), (.i (0 : Int))]) 0)) → (-9223372036854775808 : Int) ≤ x35 → x35 ≤ (9223372036854775807 : Int) →
∀ x36 : Int, x36 = (Cv.int (Env.get (fmd_sem.out [(.i x11), (.i (1 : Int)), (.i x17), (.i (0 : Int))]) 1)) → (-9223372036854775808 : Int) ≤ x36 → x36 ≤ (9223372036854775807 : Int) →
(fmd_sem.pre [(.i x11), (.i (1 : Int)), (.i x17), (.i (1 : Int))]) ∧ (
∀ x37 : Int, x37 = (Cv.int (Env.get (fmd_sem.out [(.i x11), (.i (1 : Int)), (.i x17), (.i (1 : Int))]) 0)) → (-9223372036854775808 : Int) ≤ x37 → x37 ≤ (9223372036854775807 : Int) →
∀ x38 : Int, x38 = (Cv.int (Env.get (fmd_sem.out [(.i x11), (.i (1 : Int)), (.i x17), (.i (1 : Int))]) 1)) → (-9223372036854775808 : Int) ≤ x38 → x38 ≤ (9223372036854775807 : Int) →
((Cmp.den .eq x36 (0 : Int)) = true → ((Cmp.den .eq x38 (0 : Int)) = true → ((Cmp.den .le x32 x35) = true → ((Cmp.den .le x35 x33) = true → ((Cmp.den .le x32 x37) = true → R (Value.bool (Cmp.den .le x37 x33))) ∧ ((Cmp.den .le x32 x37) = false → R (Value.bool false))) ∧ ((Cmp.den .le x35 x33) = false → R (Value.bool false))) ∧ ((Cmp.den .le x32 x35) = false → R (Value.bool false))) ∧ ((Cmp.den .eq x38 (0 : Int)) = false → R (Value.bool false))) ∧ ((Cmp.den .eq x36 (0 : Int)) = false → R (Value.bool false)))))))) ∧ ((Cmp.den .le x27 x30) = false → R (Value.bool false))))) ∧ ((Cmp.den .eq x29 (0 : Int)) = false → (sdiv_sem.pre [(.i x10), (.i x9), (.i x16), (.i x15)]) ∧ (
∀ x30 : Int, x30 = (Cv.int (Env.get (sdiv_sem.out [(.i x10), (.i x9), (.i x16), (.i x15)]) 0)) → (-9223372036854775808 : Int) ≤ x30 → x30 ≤ (9223372036854775807 : Int) →
∀ x31 : Int, x31 = (Cv.int (Env.get (sdiv_sem.out [(.i x10), (.i x9), (.i x16), (.i x15)]) 1)) → (-9223372036854775808 : Int) ≤ x31 → x31 ≤ (9223372036854775807 : Int) →
∀ x32 : Int, x32 = (Cv.int (Env.get (sdiv_sem.out [(.i x10), (.i x9), (.i x16), (.i x15)]) 2)) → (-9223372036854775808 : Int) ≤ x32 → x32 ≤ (9223372036854775807 : Int) →
((!(Cmp.den .eq x32 (0 : Int))) = true → ((Cmp.den .le x16 (0 : Int)) = true → (((Cmp.den .eq x32 (4 : Int)) == (Cmp.den .le (0 : Int) x15)) = true → R (Value.bool ((Cmp.den .eq x30 (0 : Int)) && (Cmp.den .eq x31 (0 : Int))))) ∧ (((Cmp.den .eq x32 (4 : Int)) == (Cmp.den .le (0 : Int) x15)) = false → R (Value.bool false))) ∧ ((Cmp.den .le x16 (0 : Int)) = false → ((!(Cmp.den .eq x32 (4 : Int))) = true → R (Value.bool ((Cmp.den .eq x30 (0 : Int)) && (Cmp.den .eq x31 (0 : Int))))) ∧ ((!(Cmp.den .eq x32 (4 : Int))) = false → R (Value.bool false)))) ∧ ((!(Cmp.den .eq x32 (0 : Int))) = false → (fmd_sem.pre [(.i x11), (.i (1 : Int)), (.i x17), (.i (0 : Int))]) ∧ (
∀ x33 : Int, x33 = (Cv.int (Env.get (fmd_sem.out [(.i x11), (.i (1 : Int)), (.i x17), (.i (0 : Int))]) 0)) → (-9223372036854775808 : Int) ≤ x33 → x33 ≤ (9223372036854775807 : Int) →
∀ x34 : Int, x34 = (Cv.int (Env.get (fmd_sem.out [(.i x11), (.i (1 : Int)), (.i x17), (.i (0 : Int))]) 1)) → (-9223372036854775808 : Int) ≤ x34 → x34 ≤ (9223372036854775807 : Int) →
(fmd_sem.pre [(.i x11), (.i (1 : Int)), (.i x17), (.i (1 : Int))]) ∧ (
∀ x35 : Int, x35 = (Cv.int (Env.get (fmd_sem.out [(.i x11), (.i (1 : Int)), (.i x17), (.i (1 : Int))]) 0)) → (-9223372036854775808 : Int) ≤ x35 → x35 ≤ (9223372036854775807 : Int) →
∀ x36 : Int, x36 = (Cv.int (Env.get (fmd_sem.out [(.i x11), (.i (1 : Int)), (.i x17), (.i (1 : Int))]) 1)) → (-9223372036854775808 : Int) ≤ x36 → x36 ≤ (9223372036854775807 : Int) →
((Cmp.den .eq x34 (0 : Int)) = true → ((Cmp.den .eq x36 (0 : Int)) = true → ((Cmp.den .le x30 x33) = true → ((Cmp.den .le x33 x31) = true → ((Cmp.den .le x30 x35) = true → R (Value.bool (Cmp.den .le x35 x31))) ∧ ((Cmp.den .le x30 x35) = false → R (Value.bool false))) ∧ ((Cmp.den .le x33 x31) = false → R (Value.bool false))) ∧ ((Cmp.den .le x30 x33) = false → R (Value.bool false))) ∧ ((Cmp.den .eq x36 (0 : Int)) = false → R (Value.bool false))) ∧ ((Cmp.den .eq x34 (0 : Int)) = false → R (Value.bool false)))))))))) ∧ ((Cmp.den .le x22 x25) = false → R (Value.bool false))))) ∧ ((Cmp.den .eq x24 (0 : Int)) = false → (smul_sem.pre [(.i x10), (.i x9), (.i x16), (.i x15)]) ∧ (
∀ x25 : Int, x25 = (Cv.int (Env.get (smul_sem.out [(.i x10), (.i x9), (.i x16), (.i x15)]) 0)) → (-9223372036854775808 : Int) ≤ x25 → x25 ≤ (9223372036854775807 : Int) →
∀ x26 : Int, x26 = (Cv.int (Env.get (smul_sem.out [(.i x10), (.i x9), (.i x16), (.i x15)]) 1)) → (-9223372036854775808 : Int) ≤ x26 → x26 ≤ (9223372036854775807 : Int) →
∀ x27 : Int, x27 = (Cv.int (Env.get (smul_sem.out [(.i x10), (.i x9), (.i x16), (.i x15)]) 2)) → (-9223372036854775808 : Int) ≤ x27 → x27 ≤ (9223372036854775807 : Int) →
((Cmp.den .eq x27 (0 : Int)) = true → (fmul_sem.pre [(.i x11), (.i x17)]) ∧ (
∀ x28 : Int, x28 = (Cv.int (Env.get (fmul_sem.out [(.i x11), (.i x17)]) 0)) → (-9223372036854775808 : Int) ≤ x28 → x28 ≤ (9223372036854775807 : Int) →
∀ x29 : Int, x29 = (Cv.int (Env.get (fmul_sem.out [(.i x11), (.i x17)]) 1)) → (-9223372036854775808 : Int) ≤ x29 → x29 ≤ (9223372036854775807 : Int) →
((!(Cmp.den .eq x29 (0 : Int))) = true → R (Value.bool false)) ∧ ((!(Cmp.den .eq x29 (0 : Int))) = false → ((Cmp.den .le x25 x28) = true → ((!(Cmp.den .le x28 x26)) = true → R (Value.bool false)) ∧ ((!(Cmp.den .le x28 x26)) = false → (sdiv_sem.pre [(.i x10), (.i x9), (.i x16), (.i x15)]) ∧ (
∀ x30 : Int, x30 = (Cv.int (Env.get (sdiv_sem.out [(.i x10), (.i x9), (.i x16), (.i x15)]) 0)) → (-9223372036854775808 : Int) ≤ x30 → x30 ≤ (9223372036854775807 : Int) →
∀ x31 : Int, x31 = (Cv.int (Env.get (sdiv_sem.out [(.i x10), (.i x9), (.i x16), (.i x15)]) 1)) → (-9223372036854775808 : Int) ≤ x31 → x31 ≤ (9223372036854775807 : Int) →
∀ x32 : Int, x32 = (Cv.int (Env.get (sdiv_sem.out [(.i x10), (.i x9), (.i x16), (.i x15)]) 2)) → (-9223372036854775808 : Int) ≤ x32 → x32 ≤ (9223372036854775807 : Int) →
((!(Cmp.den .eq x32 (0 : Int))) = true → ((Cmp.den .le x16 (0 : Int)) = true → (((Cmp.den .eq x32 (4 : Int)) == (Cmp.den .le (0 : Int) x15)) = true → R (Value.bool ((Cmp.den .eq x30 (0 : Int)) && (Cmp.den .eq x31 (0 : Int))))) ∧ (((Cmp.den .eq x32 (4 : Int)) == (Cmp.den .le (0 : Int) x15)) = false → R (Value.bool false))) ∧ ((Cmp.den .le x16 (0 : Int)) = false → ((!(Cmp.den .eq x32 (4 : Int))) = true → R (Value.bool ((Cmp.den .eq x30 (0 : Int)) && (Cmp.den .eq x31 (0 : Int))))) ∧ ((!(Cmp.den .eq x32 (4 : Int))) = false → R (Value.bool false)))) ∧ ((!(Cmp.den .eq x32 (0 : Int))) = false → (fmd_sem.pre [(.i x11), (.i (1 : Int)), (.i x17), (.i (0 : Int))]) ∧ (
∀ x33 : Int, x33 = (Cv.int (Env.get (fmd_sem.out [(.i x11), (.i (1 : Int)), (.i x17), (.i (0 : Int))]) 0)) → (-9223372036854775808 : Int) ≤ x33 → x33 ≤ (9223372036854775807 : Int) →
∀ x34 : Int, x34 = (Cv.int (Env.get (fmd_sem.out [(.i x11), (.i (1 : Int)), (.i x17), (.i (0 : Int))]) 1)) → (-9223372036854775808 : Int) ≤ x34 → x34 ≤ (9223372036854775807 : Int) →
(fmd_sem.pre [(.i x11), (.i (1 : Int)), (.i x17), (.i (1 : Int))]) ∧ (
∀ x35 : Int, x35 = (Cv.int (Env.get (fmd_sem.out [(.i x11), (.i (1 : Int)), (.i x17), (.i (1 : Int))]) 0)) → (-9223372036854775808 : Int) ≤ x35 → x35 ≤ (9223372036854775807 : Int) →
∀ x36 : Int, x36 = (Cv.int (Env.get (fmd_sem.out [(.i x11), (.i (1 : Int)), (.i x17), (.i (1 : Int))]) 1)) → (-9223372036854775808 : Int) ≤ x36 → x36 ≤ (9223372036854775807 : Int) →
((Cmp.den .eq x34 (0 : Int)) = true → ((Cmp.den .eq x36 (0 : Int)) = true → ((Cmp.den .le x30 x33) = true → ((Cmp.den .le x33 x31) = true → ((Cmp.den .le x30 x35) = true → R (Value.bool (Cmp.den .le x35 x31))) ∧ ((Cmp.den .le x30 x35) = false → R (Value.bool false))) ∧ ((Cmp.den .le x33 x31) = false → R (Value.bool false))) ∧ ((Cmp.den .le x30 x33) = false → R (Value.bool false))) ∧ ((Cmp.den .eq x36 (0 : Int)) = false → R (Value.bool false))) ∧ ((Cmp.den .eq x34 (0 : Int)) = false → R (Value.bool false)))))))) ∧ ((Cmp.den .le x25 x28) = false → R (Value.bool false))))) ∧ ((Cmp.den .eq x27 (0 : Int)) = false → (sdiv_sem.pre [(.i x10), (.i x9), (.i x16), (.i x15)]) ∧ (
∀ x28 : Int, x28 = (Cv.int (Env.get (sdiv_sem.out [(.i x10), (.i x9), (.i x16), (.i x15)]) 0)) → (-9223372036854775808 : Int) ≤ x28 → x28 ≤ (9223372036854775807 : Int) →
∀ x29 : Int, x29 = (Cv.int (Env.get (sdiv_sem.out [(.i x10), (.i x9), (.i x16), (.i x15)]) 1)) → (-9223372036854775808 : Int) ≤ x29 → x29 ≤ (9223372036854775807 : Int) →
∀ x30 : Int, x30 = (Cv.int (Env.get (sdiv_sem.out [(.i x10), (.i x9), (.i x16), (.i x15)]) 2)) → (-9223372036854775808 : Int) ≤ x30 → x30 ≤ (9223372036854775807 : Int) →
((!(Cmp.den .eq x30 (0 : Int))) = true → ((Cmp.den .le x16 (0 : Int)) = true → (((Cmp.den .eq x30 (4 : Int)) == (Cmp.den .le (0 : Int) x15)) = true → R (Value.bool ((Cmp.den .eq x28 (0 : Int)) && (Cmp.den .eq x29 (0 : Int))))) ∧ (((Cmp.den .eq x30 (4 : Int)) == (Cmp.den .le (0 : Int) x15)) = false → R (Value.bool false))) ∧ ((Cmp.den .le x16 (0 : Int)) = false → ((!(Cmp.den .eq x30 (4 : Int))) = true → R (Value.bool ((Cmp.den .eq x28 (0 : Int)) && (Cmp.den .eq x29 (0 : Int))))) ∧ ((!(Cmp.den .eq x30 (4 : Int))) = false → R (Value.bool false)))) ∧ ((!(Cmp.den .eq x30 (0 : Int))) = false → (fmd_sem.pre [(.i x11), (.i (1 : Int)), (.i x17), (.i (0 : Int))]) ∧ (
∀ x31 : Int, x31 = (Cv.int (Env.get (fmd_sem.out [(.i x11), (.i (1 : Int)), (.i x17), (.i (0 : Int))]) 0)) → (-9223372036854775808 : Int) ≤ x31 → x31 ≤ (9223372036854775807 : Int) →
∀ x32 : Int, x32 = (Cv.int (Env.get (fmd_sem.out [(.i x11), (.i (1 : Int)), (.i x17), (.i (0 : Int))]) 1)) → (-9223372036854775808 : Int) ≤ x32 → x32 ≤ (9223372036854775807 : Int) →
(fmd_sem.pre [(.i x11), (.i (1 : Int)), (.i x17), (.i (1 : Int))]) ∧ (
∀ x33 : Int, x33 = (Cv.int (Env.get (fmd_sem.out [(.i x11), (.i (1 : Int)), (.i x17), (.i (1 : Int))]) 0)) → (-9223372036854775808 : Int) ≤ x33 → x33 ≤ (9223372036854775807 : Int) →
∀ x34 : Int, x34 = (Cv.int (Env.get (fmd_sem.out [(.i x11), (.i (1 : Int)), (.i x17), (.i (1 : Int))]) 1)) → (-9223372036854775808 : Int) ≤ x34 → x34 ≤ (9223372036854775807 : Int) →
((Cmp.den .eq x32 (0 : Int)) = true → ((Cmp.den .eq x34 (0 : Int)) = true → ((Cmp.den .le x28 x31) = true → ((Cmp.den .le x31 x29) = true → ((Cmp.den .le x28 x33) = true → R (Value.bool (Cmp.den .le x33 x29))) ∧ ((Cmp.den .le x28 x33) = false → R (Value.bool false))) ∧ ((Cmp.den .le x31 x29) = false → R (Value.bool false))) ∧ ((Cmp.den .le x28 x31) = false → R (Value.bool false))) ∧ ((Cmp.den .eq x34 (0 : Int)) = false → R (Value.bool false))) ∧ ((Cmp.den .eq x32 (0 : Int)) = false → R (Value.bool false)))))))))))))))) ∧ ((Cmp.den .le x16 x17) = false → R (Value.bool false)))) ∧ ((Cmp.den .le x10 x11) = false → R (Value.bool false)))) := by kernel_rfl

def lsholds_sem : SpecSem := { pre := fun cs => match cs with | [.i a, .i b, .i c, .i d, .i e, .i f] => IsI a ∧ IsI b ∧ IsI c ∧ IsI d ∧ IsI e ∧ IsI f | _ => False, out := fun cs => match cs with | [.i a, .i b, .i c, .i d, .i e, .i f] => [.b true] | _ => [] }
set_option maxHeartbeats 8000000 in
theorem lsholds_ok : SpecOK Try.prog 8 lsholds_sp lsholds_sem := by
  refine spec_of_tree lsholds_cxok Try.func8 (by kernel_rfl) (by kernel_rfl) lsholds_walk rfl ?_
  intro cs hpre
  match cs, hpre with
  | [.i a, .i b, .i c, .i d, .i e, .i f], ⟨⟨h1, h2⟩, ⟨h3, h4⟩, ⟨h5, h6⟩, ⟨h7, h8⟩, ⟨h9, h10⟩, ⟨h11, h12⟩⟩ =>
    refine ⟨rfl, IvsB.ok (by simp only [lsholds_ivs, IvsB, Cv.int, and_true]; omega), ?_, ?_⟩
    · simp only [lsholds_sem, lsholds_sp, Fits]
    · rw [lsholds_den]
      simp only [lsholds_sem, lsholds_sp, spT, tell, lsholds_den, sadd_sem, ssub_sem, smul_sem, sdiv_sem, fadd_sem, fsub_sem, fmul_sem, fmd_sem, salive_sem, Tree.den, List.getElem?_cons_zero, List.getElem?_cons_succ, IE.den, BE.den, At.den, CA.den, Env.get, Cv.int, Cv.bool, List.cons_append, List.nil_append, List.map_cons, List.map_nil, bindRes, bindEq, Fits, SV.den, denL, place, placeL, eq_t, eq_f, lt_t, lt_f, le_t, le_f, beq_iff_eq, beq_eq_false_iff_ne, ne_eq, reduceCtorEq, b_dec, decide_eq_true_eq, decide_eq_false_iff_not, Bool.not_eq_false', Bool.or_eq_true, Bool.or_eq_false_iff, Bool.and_eq_false_iff, true_iff, false_iff, Bool.false_eq_true, Bool.not_eq_true', Bool.and_eq_true, Bool.not_true, Bool.not_false, List.cons.injEq, Cv.i.injEq, Cv.b.injEq, and_true, true_and, agg_inj, tup_inj, Value.int.injEq, Value.bool.injEq]
      intro x6 e6 x7 e7 x8 e8 x9 e9 x10 e10 x11 e11
      have F1 : (x10 ≤ x11 ∧ x11 ≤ x9) ∧ (-9223372036854775808 ≤ x10 ∧ x9 ≤ 9223372036854775807) := by
        clear h7 h8 h9 h10 h11 h12
        omega
      clear e6 e7 e8 e9 e10 e11 h1 h2 h3 h4 h5 h6
      intro x12 e12 x13 e13 x14 e14 x15 e15 x16 e16 x17 e17
      have F2 : (x16 ≤ x17 ∧ x17 ≤ x15) ∧ (-9223372036854775808 ≤ x16 ∧ x15 ≤ 9223372036854775807) := by
        clear F1
        omega
      clear e12 e13 e14 e15 e16 e17 h7 h8 h9 h10 h11 h12
      obtain ⟨⟨u1, u2⟩, u3, u4⟩ := F1
      obtain ⟨⟨v1, v2⟩, v3, v4⟩ := F2
      have jA : IsI x10 := ⟨by omega, by omega⟩
      have jB : IsI x9 := ⟨by omega, by omega⟩
      have jX : IsI x11 := ⟨by omega, by omega⟩
      have jC : IsI x16 := ⟨by omega, by omega⟩
      have jD : IsI x15 := ⟨by omega, by omega⟩
      have jY : IsI x17 := ⟨by omega, by omega⟩
      have i0 : IsI 0 := by decide
      have i1 : IsI 1 := by decide
      have w1 : x10 ≤ x9 := by omega
      have w2 : x16 ≤ x15 := by omega
      have o1 : (x9 < x10) = False := by simp; omega
      have o2 : (x9 < x11) = False := by simp; omega
      have o3 : (x11 < x10) = False := by simp; omega
      have o4 : (x15 < x17) = False := by simp; omega
      have o5 : (x17 < x16) = False := by simp; omega
      have P := mul_in u1 u2 v1 v2
      simp only [o1, o2, o3, o4, o5, u1, u2, v1, v2, w1, w2, jA, jB, jX, jC, jD, jY, i0, i1, forall_eq, f50, f00, eq_self, if_true, if_false, true_and, and_true, false_and, and_false, true_or, or_true, false_or, or_false, true_iff, iff_true, false_iff, iff_false, not_true_eq_false, not_false_eq_true, true_implies, false_implies, implies_true, forall_const, decide_true, decide_false, reduceCtorEq]
      generalize x11 * x17 = pr at *
      generalize mn4 (x10 * x16) (x10 * x15) (x9 * x16) (x9 * x15) = lo at *
      generalize mx4 (x10 * x16) (x10 * x15) (x9 * x16) (x9 * x15) = hi at *
      rcases Decidable.em (IsI (x10 + x16) ∧ IsI (x9 + x15)) with kA | kA
      all_goals first
        | (have z1 := kA.1
           have kX : IsI (x11 + x17) := by unfold IsI at kA ⊢; omega
           have y1 : (x11 + x17 < x10 + x16) = False := by simp; omega
           have y2 : (x9 + x15 < x11 + x17) = False := by simp; omega
           simp only [kA.1, kA.2, kX, y1, y2, forall_eq, f50, f00, f40, eq_self, if_true, if_false, true_and, and_true, false_and, and_false, true_or, or_true, false_or, or_false, true_iff, iff_true, false_iff, iff_false, not_true_eq_false, not_false_eq_true, true_implies, false_implies, implies_true, forall_const, decide_true, decide_false, reduceCtorEq])
        | (simp only [kA, forall_eq, f50, f00, f40, eq_self, if_true, if_false, true_and, and_true, false_and, and_false, true_or, or_true, false_or, or_false, true_iff, iff_true, false_iff, iff_false, not_true_eq_false, not_false_eq_true, true_implies, false_implies, implies_true, forall_const, decide_true, decide_false, reduceCtorEq])
      all_goals
        rcases Decidable.em (IsI (x10 - x15) ∧ IsI (x9 - x16)) with kS | kS
        all_goals first
          | (have z1 := kS.1
             have kX : IsI (x11 - x17) := by unfold IsI at kS ⊢; omega
             have y1 : (x11 - x17 < x10 - x15) = False := by simp; omega
             have y2 : (x9 - x16 < x11 - x17) = False := by simp; omega
             simp only [kS.1, kS.2, kX, y1, y2, forall_eq, f50, f00, f40, eq_self, if_true, if_false, true_and, and_true, false_and, and_false, true_or, or_true, false_or, or_false, true_iff, iff_true, false_iff, iff_false, not_true_eq_false, not_false_eq_true, true_implies, false_implies, implies_true, forall_const, decide_true, decide_false, reduceCtorEq])
          | (simp only [kS, forall_eq, f50, f00, f40, eq_self, if_true, if_false, true_and, and_true, false_and, and_false, true_or, or_true, false_or, or_false, true_iff, iff_true, false_iff, iff_false, not_true_eq_false, not_false_eq_true, true_implies, false_implies, implies_true, forall_const, decide_true, decide_false, reduceCtorEq])
        all_goals
          rcases Decidable.em (IsI lo ∧ IsI hi) with kM | kM
          all_goals first
            | (have z1 := kM.1
               have kX : IsI pr := by unfold IsI at kM ⊢; omega
               have y1 : (pr < lo) = False := by simp; omega
               have y2 : (hi < pr) = False := by simp; omega
               simp only [kM.1, kM.2, kX, y1, y2, forall_eq, f50, f00, f40, eq_self, if_true, if_false, true_and, and_true, false_and, and_false, true_or, or_true, false_or, or_false, true_iff, iff_true, false_iff, iff_false, not_true_eq_false, not_false_eq_true, true_implies, false_implies, implies_true, forall_const, decide_true, decide_false, reduceCtorEq])
            | (simp only [kM, forall_eq, f50, f00, f40, eq_self, if_true, if_false, true_and, and_true, false_and, and_false, true_or, or_true, false_or, or_false, true_iff, iff_true, false_iff, iff_false, not_true_eq_false, not_false_eq_true, true_implies, false_implies, implies_true, forall_const, decide_true, decide_false, reduceCtorEq])
          all_goals
            by_cases hz : x16 ≤ 0 ∧ 0 ≤ x15
            · obtain ⟨q1, q2, q3⟩ := q_zero (a := x10) (b := x9) ⟨w1, w2⟩ hz
              have d1 : Cmp.le.den 0 x15 = true := decide_eq_true hz.2
              have d2 : Cmp.eq.den 4 4 = true := rfl
              simp only [q1, q2, q3, d1, d2, hz.1, hz.2, forall_eq, f50, f00, f40, eq_self, if_true, if_false, true_and, and_true, false_and, and_false, true_or, or_true, false_or, or_false, true_iff, iff_true, false_iff, iff_false, not_true_eq_false, not_false_eq_true, true_implies, false_implies, implies_true, forall_const, decide_true, decide_false, reduceCtorEq] <;> ((repeat' (first | intro _ | refine And.intro ?_ ?_ | exact trivial)) <;> omega)
            · by_cases kD : qOK x10 x9 x16 x15
              · obtain ⟨q1, q2, q3⟩ := q_fits ⟨w1, w2⟩ hz kD
                have n0 : x17 ≠ 0 := by omega
                have Q := div_in u1 u2 v1 v2 hz
                have l := dn_up (x := x11) n0
                have kD1 := kD.1
                have kD2 := kD.2
                generalize mn4 (dnZ x10 x16) (dnZ x10 x15) (dnZ x9 x16) (dnZ x9 x15) = ql at *
                generalize mx4 (upD x10 x16) (upD x10 x15) (upD x9 x16) (upD x9 x15) = qh at *
                have kd1 : IsI (dnZ x11 x17) := by unfold IsI at kD1 kD2 ⊢; omega
                have kd2 : IsI (upD x11 x17) := by unfold IsI at kD1 kD2 ⊢; omega
                simp only [q1, q2, q3, mdV0 n0, mdV1 n0, mdE0 n0, mdE1 n0, kd1, kd2, forall_eq, f50, f00, f40, eq_self, if_true, if_false, true_and, and_true, false_and, and_false, true_or, or_true, false_or, or_false, true_iff, iff_true, false_iff, iff_false, not_true_eq_false, not_false_eq_true, true_implies, false_implies, implies_true, forall_const, decide_true, decide_false, reduceCtorEq]
                generalize dnZ x11 x17 = dn at *
                generalize upD x11 x17 = up at *
                clear P
                (repeat' (first | intro _ | refine And.intro ?_ ?_ | exact trivial)) <;> omega
              · obtain ⟨q1, q2, q3⟩ := q_over ⟨w1, w2⟩ hz kD
                have d4 : Cmp.eq.den 5 4 = false := rfl
                by_cases hc : x16 ≤ 0
                · have d3 : Cmp.le.den 0 x15 = false := decide_eq_false (by omega)
                  simp only [q1, q2, q3, d3, d4, hc, forall_eq, f50, f00, f40, eq_self, if_true, if_false, true_and, and_true, false_and, and_false, true_or, or_true, false_or, or_false, true_iff, iff_true, false_iff, iff_false, not_true_eq_false, not_false_eq_true, true_implies, false_implies, implies_true, forall_const, decide_true, decide_false, reduceCtorEq] <;> ((repeat' (first | intro _ | refine And.intro ?_ ?_ | exact trivial)) <;> omega)
                · simp only [q1, q2, q3, d4, hc, forall_eq, f50, f00, f40, eq_self, if_true, if_false, true_and, and_true, false_and, and_false, true_or, or_true, false_or, or_false, true_iff, iff_true, false_iff, iff_false, not_true_eq_false, not_false_eq_true, true_implies, false_implies, implies_true, forall_const, decide_true, decide_false, reduceCtorEq] <;> ((repeat' (first | intro _ | refine And.intro ?_ ?_ | exact trivial)) <;> omega)
end Go.Proofs.Ytlhmhcjpdpakkaa.X
