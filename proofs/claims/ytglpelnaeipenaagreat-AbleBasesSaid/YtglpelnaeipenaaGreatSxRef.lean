/-
  The contracts of the reference's numbers of 128 bits (package datumref01): sums, differences, products, for every input in range.
  (Printed by wip/sx/gen_ref.py.)
-/
import Derived.Test.YtglpelnaeipenaaGreatSxRefAdd
import Derived.Test.YtglpelnaeipenaaGreatSxWide
namespace Go.Proofs.YtglpelnaeipenaaGreat.X
open Go Go.SX Go.RowKit
set_option linter.unusedVariables false
set_option linter.unusedSimpArgs false

def rsub_sp : SpecSh := { args := [(.agg [(.int .u64 (.z 0)), (.int .u64 (.z 0))]), (.agg [(.int .u64 (.z 0)), (.int .u64 (.z 0))])], res := (.tup [(.agg [(.int .u64 (.z 0)), (.int .u64 (.z 0))]), (.bool .f)]), sh := [.i (some (0, 18446744073709551615)), .i (some (0, 18446744073709551615)), .b] }
set_option maxRecDepth 100000 in
def rsub_tree : Tree :=
.lett (.div (.v 1) (.z 1)) <|
.lett (.mod (.v 4) (.z 65536)) <|
.lett (.div (.v 1) (.z 65536)) <|
.lett (.mod (.v 6) (.z 65536)) <|
.lett (.div (.v 1) (.z 4294967296)) <|
.lett (.mod (.v 8) (.z 65536)) <|
.lett (.div (.v 1) (.z 281474976710656)) <|
.lett (.mod (.v 10) (.z 65536)) <|
.lett (.div (.v 0) (.z 1)) <|
.lett (.mod (.v 12) (.z 65536)) <|
.lett (.div (.v 0) (.z 65536)) <|
.lett (.mod (.v 14) (.z 65536)) <|
.lett (.div (.v 0) (.z 4294967296)) <|
.lett (.mod (.v 16) (.z 65536)) <|
.lett (.div (.v 0) (.z 281474976710656)) <|
.lett (.mod (.v 18) (.z 65536)) <|
.lett (.div (.v 3) (.z 1)) <|
.lett (.mod (.v 20) (.z 65536)) <|
.lett (.div (.v 3) (.z 65536)) <|
.lett (.mod (.v 22) (.z 65536)) <|
.lett (.div (.v 3) (.z 4294967296)) <|
.lett (.mod (.v 24) (.z 65536)) <|
.lett (.div (.v 3) (.z 281474976710656)) <|
.lett (.mod (.v 26) (.z 65536)) <|
.lett (.div (.v 2) (.z 1)) <|
.lett (.mod (.v 28) (.z 65536)) <|
.lett (.div (.v 2) (.z 65536)) <|
.lett (.mod (.v 30) (.z 65536)) <|
.lett (.div (.v 2) (.z 4294967296)) <|
.lett (.mod (.v 32) (.z 65536)) <|
.lett (.div (.v 2) (.z 281474976710656)) <|
.lett (.mod (.v 34) (.z 65536)) <|
.lett (.add (.v 5) (.z 65535)) <|
.lett (.sub (.v 36) (.v 21)) <|
.lett (.add (.v 7) (.z 65535)) <|
.lett (.sub (.v 38) (.v 23)) <|
.lett (.add (.v 9) (.z 65535)) <|
.lett (.sub (.v 40) (.v 25)) <|
.lett (.add (.v 11) (.z 65535)) <|
.lett (.sub (.v 42) (.v 27)) <|
.lett (.add (.v 13) (.z 65535)) <|
.lett (.sub (.v 44) (.v 29)) <|
.lett (.add (.v 15) (.z 65535)) <|
.lett (.sub (.v 46) (.v 31)) <|
.lett (.add (.v 17) (.z 65535)) <|
.lett (.sub (.v 48) (.v 33)) <|
.lett (.add (.v 19) (.z 65535)) <|
.lett (.sub (.v 50) (.v 35)) <|
.lett (.add (.v 37) (.z 1)) <|
.lett (.add (.v 52) (.z 0)) <|
.lett (.mod (.v 53) (.z 65536)) <|
.lett (.add (.v 52) (.z 0)) <|
.lett (.div (.v 55) (.z 65536)) <|
.lett (.add (.v 39) (.v 56)) <|
.lett (.mod (.v 57) (.z 65536)) <|
.lett (.add (.v 39) (.v 56)) <|
.lett (.div (.v 59) (.z 65536)) <|
.lett (.add (.v 41) (.v 60)) <|
.lett (.mod (.v 61) (.z 65536)) <|
.lett (.add (.v 41) (.v 60)) <|
.lett (.div (.v 63) (.z 65536)) <|
.lett (.add (.v 43) (.v 64)) <|
.lett (.mod (.v 65) (.z 65536)) <|
.lett (.add (.v 43) (.v 64)) <|
.lett (.div (.v 67) (.z 65536)) <|
.lett (.add (.v 45) (.v 68)) <|
.lett (.mod (.v 69) (.z 65536)) <|
.lett (.add (.v 45) (.v 68)) <|
.lett (.div (.v 71) (.z 65536)) <|
.lett (.add (.v 47) (.v 72)) <|
.lett (.mod (.v 73) (.z 65536)) <|
.lett (.add (.v 47) (.v 72)) <|
.lett (.div (.v 75) (.z 65536)) <|
.lett (.add (.v 49) (.v 76)) <|
.lett (.mod (.v 77) (.z 65536)) <|
.lett (.add (.v 49) (.v 76)) <|
.lett (.div (.v 79) (.z 65536)) <|
.lett (.add (.v 51) (.v 80)) <|
.lett (.mod (.v 81) (.z 65536)) <|
.lett (.add (.v 51) (.v 80)) <|
.lett (.div (.v 83) (.z 65536)) <|
.lett (.mul (.v 54) (.z 1)) <|
.lett (.add (.z 0) (.v 85)) <|
.lett (.mul (.v 70) (.z 1)) <|
.lett (.add (.z 0) (.v 87)) <|
.lett (.mul (.v 58) (.z 65536)) <|
.lett (.add (.v 86) (.v 89)) <|
.lett (.mul (.v 74) (.z 65536)) <|
.lett (.add (.v 88) (.v 91)) <|
.lett (.mul (.v 62) (.z 4294967296)) <|
.lett (.add (.v 90) (.v 93)) <|
.lett (.mul (.v 78) (.z 4294967296)) <|
.lett (.add (.v 92) (.v 95)) <|
.lett (.mul (.v 66) (.z 281474976710656)) <|
.lett (.add (.v 94) (.v 97)) <|
.lett (.mul (.v 82) (.z 281474976710656)) <|
.lett (.add (.v 96) (.v 99)) <|
.ite (.not (.cmp .eq (.v 0) (.v 2))) (.ret (.tup [(.agg [(.int .u64 (.v 100)), (.int .u64 (.v 98))]), (.bool (.cmp .lt (.v 0) (.v 2)))])) <|
.ret (.tup [(.agg [(.int .u64 (.v 100)), (.int .u64 (.v 98))]), (.bool (.cmp .lt (.v 1) (.v 3)))])
noncomputable def rsub_cx : Ctx := { tys := tys, fns := fns, mets := mets, sps := [], anns := [], trys := [] }
def rsub_ivs : List (Option (Int × Int)) := [some (0, 18446744073709551615), some (0, 18446744073709551615), some (0, 18446744073709551615), some (0, 18446744073709551615)]
set_option maxRecDepth 100000 in
theorem rsub_walk : runFn rsub_cx 3000 87 Tryz.f87 rsub_sp.args rsub_ivs = rsub_tree := by kernel_rfl
noncomputable def rsub_M : Nat → SpecSem
  | _ => noSem
theorem rsub_cxok : CxOK Tryz.prog rsub_cx rsub_M := ⟨tysOK, fnsOK, fun _ _ h => spNil h, mixedOK, fun _ _ h => trNil h, fun _ _ h => atNil h, metsOK⟩
set_option maxRecDepth 100000 in
def rsub_tail : Tree :=
.ite (.not (.cmp .eq (.v 0) (.v 2))) (.ret (.tup [(.agg [(.int .u64 (.v 100)), (.int .u64 (.v 98))]), (.bool (.cmp .lt (.v 0) (.v 2)))])) <|
.ret (.tup [(.agg [(.int .u64 (.v 100)), (.int .u64 (.v 98))]), (.bool (.cmp .lt (.v 1) (.v 3)))])
set_option maxRecDepth 100000 in
theorem rsub_den (M : Nat → SpecSem) (R RP : Value → Prop) (F : Ex → St → Js → Env → Prop) (J : Js) (x0 : Int) (x1 : Int) (x2 : Int) (x3 : Int) : Tree.den M R RP F rsub_tree J [(.i x0), (.i x1), (.i x2), (.i x3)] = (
  ∀ x4 : Int, x4 = x1 / (1 : Int) →
  ∀ x5 : Int, x5 = x4 % (65536 : Int) →
  ∀ x6 : Int, x6 = x1 / (65536 : Int) →
  ∀ x7 : Int, x7 = x6 % (65536 : Int) →
  ∀ x8 : Int, x8 = x1 / (4294967296 : Int) →
  ∀ x9 : Int, x9 = x8 % (65536 : Int) →
  ∀ x10 : Int, x10 = x1 / (281474976710656 : Int) →
  ∀ x11 : Int, x11 = x10 % (65536 : Int) →
  ∀ x12 : Int, x12 = x0 / (1 : Int) →
  ∀ x13 : Int, x13 = x12 % (65536 : Int) →
  ∀ x14 : Int, x14 = x0 / (65536 : Int) →
  ∀ x15 : Int, x15 = x14 % (65536 : Int) →
  ∀ x16 : Int, x16 = x0 / (4294967296 : Int) →
  ∀ x17 : Int, x17 = x16 % (65536 : Int) →
  ∀ x18 : Int, x18 = x0 / (281474976710656 : Int) →
  ∀ x19 : Int, x19 = x18 % (65536 : Int) →
  ∀ x20 : Int, x20 = x3 / (1 : Int) →
  ∀ x21 : Int, x21 = x20 % (65536 : Int) →
  ∀ x22 : Int, x22 = x3 / (65536 : Int) →
  ∀ x23 : Int, x23 = x22 % (65536 : Int) →
  ∀ x24 : Int, x24 = x3 / (4294967296 : Int) →
  ∀ x25 : Int, x25 = x24 % (65536 : Int) →
  ∀ x26 : Int, x26 = x3 / (281474976710656 : Int) →
  ∀ x27 : Int, x27 = x26 % (65536 : Int) →
  ∀ x28 : Int, x28 = x2 / (1 : Int) →
  ∀ x29 : Int, x29 = x28 % (65536 : Int) →
  ∀ x30 : Int, x30 = x2 / (65536 : Int) →
  ∀ x31 : Int, x31 = x30 % (65536 : Int) →
  ∀ x32 : Int, x32 = x2 / (4294967296 : Int) →
  ∀ x33 : Int, x33 = x32 % (65536 : Int) →
  ∀ x34 : Int, x34 = x2 / (281474976710656 : Int) →
  ∀ x35 : Int, x35 = x34 % (65536 : Int) →
  ∀ x36 : Int, x36 = x5 + (65535 : Int) →
  ∀ x37 : Int, x37 = x36 - x21 →
  ∀ x38 : Int, x38 = x7 + (65535 : Int) →
  ∀ x39 : Int, x39 = x38 - x23 →
  ∀ x40 : Int, x40 = x9 + (65535 : Int) →
  ∀ x41 : Int, x41 = x40 - x25 →
  ∀ x42 : Int, x42 = x11 + (65535 : Int) →
  ∀ x43 : Int, x43 = x42 - x27 →
  ∀ x44 : Int, x44 = x13 + (65535 : Int) →
  ∀ x45 : Int, x45 = x44 - x29 →
  ∀ x46 : Int, x46 = x15 + (65535 : Int) →
  ∀ x47 : Int, x47 = x46 - x31 →
  ∀ x48 : Int, x48 = x17 + (65535 : Int) →
  ∀ x49 : Int, x49 = x48 - x33 →
  ∀ x50 : Int, x50 = x19 + (65535 : Int) →
  ∀ x51 : Int, x51 = x50 - x35 →
  ∀ x52 : Int, x52 = x37 + (1 : Int) →
  ∀ x53 : Int, x53 = x52 + (0 : Int) →
  ∀ x54 : Int, x54 = x53 % (65536 : Int) →
  ∀ x55 : Int, x55 = x52 + (0 : Int) →
  ∀ x56 : Int, x56 = x55 / (65536 : Int) →
  ∀ x57 : Int, x57 = x39 + x56 →
  ∀ x58 : Int, x58 = x57 % (65536 : Int) →
  ∀ x59 : Int, x59 = x39 + x56 →
  ∀ x60 : Int, x60 = x59 / (65536 : Int) →
  ∀ x61 : Int, x61 = x41 + x60 →
  ∀ x62 : Int, x62 = x61 % (65536 : Int) →
  ∀ x63 : Int, x63 = x41 + x60 →
  ∀ x64 : Int, x64 = x63 / (65536 : Int) →
  ∀ x65 : Int, x65 = x43 + x64 →
  ∀ x66 : Int, x66 = x65 % (65536 : Int) →
  ∀ x67 : Int, x67 = x43 + x64 →
  ∀ x68 : Int, x68 = x67 / (65536 : Int) →
  ∀ x69 : Int, x69 = x45 + x68 →
  ∀ x70 : Int, x70 = x69 % (65536 : Int) →
  ∀ x71 : Int, x71 = x45 + x68 →
  ∀ x72 : Int, x72 = x71 / (65536 : Int) →
  ∀ x73 : Int, x73 = x47 + x72 →
  ∀ x74 : Int, x74 = x73 % (65536 : Int) →
  ∀ x75 : Int, x75 = x47 + x72 →
  ∀ x76 : Int, x76 = x75 / (65536 : Int) →
  ∀ x77 : Int, x77 = x49 + x76 →
  ∀ x78 : Int, x78 = x77 % (65536 : Int) →
  ∀ x79 : Int, x79 = x49 + x76 →
  ∀ x80 : Int, x80 = x79 / (65536 : Int) →
  ∀ x81 : Int, x81 = x51 + x80 →
  ∀ x82 : Int, x82 = x81 % (65536 : Int) →
  ∀ x83 : Int, x83 = x51 + x80 →
  ∀ x84 : Int, x84 = x83 / (65536 : Int) →
  ∀ x85 : Int, x85 = x54 * (1 : Int) →
  ∀ x86 : Int, x86 = (0 : Int) + x85 →
  ∀ x87 : Int, x87 = x70 * (1 : Int) →
  ∀ x88 : Int, x88 = (0 : Int) + x87 →
  ∀ x89 : Int, x89 = x58 * (65536 : Int) →
  ∀ x90 : Int, x90 = x86 + x89 →
  ∀ x91 : Int, x91 = x74 * (65536 : Int) →
  ∀ x92 : Int, x92 = x88 + x91 →
  ∀ x93 : Int, x93 = x62 * (4294967296 : Int) →
  ∀ x94 : Int, x94 = x90 + x93 →
  ∀ x95 : Int, x95 = x78 * (4294967296 : Int) →
  ∀ x96 : Int, x96 = x92 + x95 →
  ∀ x97 : Int, x97 = x66 * (281474976710656 : Int) →
  ∀ x98 : Int, x98 = x94 + x97 →
  ∀ x99 : Int, x99 = x82 * (281474976710656 : Int) →
  ∀ x100 : Int, x100 = x96 + x99 →
  Tree.den M R RP F rsub_tail J [(.i x0), (.i x1), (.i x2), (.i x3), (.i x4), (.i x5), (.i x6), (.i x7), (.i x8), (.i x9), (.i x10), (.i x11), (.i x12), (.i x13), (.i x14), (.i x15), (.i x16), (.i x17), (.i x18), (.i x19), (.i x20), (.i x21), (.i x22), (.i x23), (.i x24), (.i x25), (.i x26), (.i x27), (.i x28), (.i x29), (.i x30), (.i x31), (.i x32), (.i x33), (.i x34), (.i x35), (.i x36), (.i x37), (.i x38), (.i x39), (.i x40), (.i x41), (.i x42), (.i x43), (.i x44), (.i x45), (.i x46), (.i x47), (.i x48), (.i x49), (.i x50), (.i x51), (.i x52), (.i x53), (.i x54), (.i x55), (.i x56), (.i x57), (.i x58), (.i x59), (.i x60), (.i x61), (.i x62), (.i x63), (.i x64), (.i x65), (.i x66), (.i x67), (.i x68), (.i x69), (.i x70), (.i x71), (.i x72), (.i x73), (.i x74), (.i x75), (.i x76), (.i x77), (.i x78), (.i x79), (.i x80), (.i x81), (.i x82), (.i x83), (.i x84), (.i x85), (.i x86), (.i x87), (.i x88), (.i x89), (.i x90), (.i x91), (.i x92), (.i x93), (.i x94), (.i x95), (.i x96), (.i x97), (.i x98), (.i x99), (.i x100)]) := by kernel_rfl

def rsub_sem : SpecSem := { pre := fun cs => match cs with | [.i a, .i b, .i c, .i d] => IsU a ∧ IsU b ∧ IsU c ∧ IsU d | _ => False, out := fun cs => match cs with | [.i a, .i b, .i c, .i d] => [.i ((val a b - val c d) / 18446744073709551616 % 18446744073709551616), .i ((val a b - val c d) % 18446744073709551616), .b (decide (val a b < val c d))] | _ => [] }
set_option maxRecDepth 20000 in
theorem rsub_ok : SpecOK Tryz.prog 87 rsub_sp rsub_sem := by
  refine spec_of_tree rsub_cxok Tryz.func87 (by kernel_rfl) (by kernel_rfl) rsub_walk rfl ?_
  intro cs hpre
  match cs, hpre with
  | [.i a, .i b, .i c, .i d], ⟨ha, hb, hc, hd⟩ =>
    have ha' := ha; have hb' := hb; have hc' := hc; have hd' := hd
    obtain ⟨h1, h2⟩ := ha'
    obtain ⟨h3, h4⟩ := hb'
    obtain ⟨h5, h6⟩ := hc'
    obtain ⟨h7, h8⟩ := hd'
    refine ⟨rfl, IvsB.ok (by simp only [rsub_ivs, IvsB, Cv.int, and_true]; omega), ?_, ?_⟩
    · simp only [rsub_sem, rsub_sp, Fits, and_true]
      omega
    · have hab := val_rng ha hb
      have hcd := val_rng hc hd
      rw [rsub_den]
      intro x4 e4 x5 e5 x6 e6 x7 e7 x8 e8 x9 e9 x10 e10 x11 e11 x12 e12 x13 e13 x14 e14 x15 e15 x16 e16 x17 e17 x18 e18 x19 e19 x20 e20 x21 e21 x22 e22 x23 e23 x24 e24 x25 e25 x26 e26 x27 e27 x28 e28 x29 e29 x30 e30 x31 e31 x32 e32 x33 e33 x34 e34 x35 e35 x36 e36 x37 e37 x38 e38 x39 e39 x40 e40 x41 e41 x42 e42 x43 e43 x44 e44 x45 e45 x46 e46 x47 e47 x48 e48 x49 e49 x50 e50 x51 e51 x52 e52 x53 e53 x54 e54 x55 e55 x56 e56 x57 e57 x58 e58 x59 e59 x60 e60 x61 e61 x62 e62 x63 e63 x64 e64 x65 e65 x66 e66 x67 e67 x68 e68 x69 e69 x70 e70 x71 e71 x72 e72 x73 e73 x74 e74 x75 e75 x76 e76 x77 e77 x78 e78 x79 e79 x80 e80 x81 e81 x82 e82 x83 e83 x84 e84 x85 e85 x86 e86 x87 e87 x88 e88 x89 e89 x90 e90 x91 e91 x92 e92 x93 e93 x94 e94 x95 e95 x96 e96 x97 e97 x98 e98 x99 e99 x100 e100
      have p1 := word4 e4 e5 e6 e7 e8 e9 e10 e11 hb
      obtain ⟨p1, b5, b7, b9, b11⟩ := p1
      have p0 := word4 e12 e13 e14 e15 e16 e17 e18 e19 ha
      obtain ⟨p0, b13, b15, b17, b19⟩ := p0
      have p3 := word4 e20 e21 e22 e23 e24 e25 e26 e27 hd
      obtain ⟨p3, b21, b23, b25, b27⟩ := p3
      have p2 := word4 e28 e29 e30 e31 e32 e33 e34 e35 hc
      obtain ⟨p2, b29, b31, b33, b35⟩ := p2
      have q37 := sub0 e37 e36 b5 b21
      have q39 := sub0 e39 e38 b7 b23
      have q41 := sub0 e41 e40 b9 b25
      have q43 := sub0 e43 e42 b11 b27
      have q45 := sub0 e45 e44 b13 b29
      have q47 := sub0 e47 e46 b15 b31
      have q49 := sub0 e49 e48 b17 b33
      have q51 := sub0 e51 e50 b19 b35
      have q52 := inc0 e52 q37
      have s53 := step0 e53 e54 (same e53 e55 e56) q52
      have s57 := step e57 e58 (same e57 e59 e60) q39 s53.2.2.2
      have s61 := step e61 e62 (same e61 e63 e64) q41 s57.2.2.2
      have s65 := step e65 e66 (same e65 e67 e68) q43 s61.2.2.2
      have s69 := step e69 e70 (same e69 e71 e72) q45 s65.2.2.2
      have s73 := step e73 e74 (same e73 e75 e76) q47 s69.2.2.2
      have s77 := step e77 e78 (same e77 e79 e80) q49 s73.2.2.2
      have s81 := step e81 e82 (same e81 e83 e84) q51 s77.2.2.2
      have w := whole8 e85 e86 e87 e88 e89 e90 e91 e92 e93 e94 e95 e96 e97 e98 e99 e100
      have z := chain8 s53 s57 s61 s65 s69 s73 s77 s81 w.1 w.2
      have v := vdif p0 p1 p2 p3 e52 e36 e37 e38 e39 e40 e41 e42 e43 e44 e45 e46 e47 e48 e49 e50 e51
      simp only [rsub_sem, rsub_sp, rsub_tree, rsub_tail, Tree.den, LE.den, Cv.list, placeA, List.getElem?_cons_zero, List.getElem?_cons_succ, IE.den, BE.den, At.den, CA.den, Env.get, Cv.int, Cv.bool, List.cons_append, List.nil_append, List.map_cons, List.map_nil, bindRes, bindEq, Fits, SV.den, denL, place, placeL, eq_t, eq_f, lt_t, lt_f, le_t, le_f, beq_iff_eq, beq_eq_false_iff_ne, ne_eq, reduceCtorEq, b_dec, decide_eq_true_eq, decide_eq_false_iff_not, Bool.not_eq_false', Bool.or_eq_true, Bool.or_eq_false_iff, Bool.and_eq_false_iff, true_iff, false_iff, Bool.false_eq_true, Bool.not_eq_true', Bool.and_eq_true, Bool.not_true, Bool.not_false, List.cons.injEq, Cv.i.injEq, Cv.b.injEq, and_true, true_and, agg_inj, tup_inj, Value.int.injEq, Value.bool.injEq]
      have r := fin_sub z v hab hcd ⟨h1, h2⟩ ⟨h3, h4⟩ ⟨h5, h6⟩ ⟨h7, h8⟩
      exact ⟨fun h => (have q := r.1 h; ⟨⟨q.1, q.2.1⟩, q.2.2⟩), fun h => (have q := r.2 h; ⟨⟨q.1, q.2.1⟩, q.2.2⟩)⟩
end Go.Proofs.YtglpelnaeipenaaGreat.X
