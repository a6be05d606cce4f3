/-
  The contract of the reference's product of numbers of 128 bits (datumref01.Times). (Printed by wip/sx/gen_ref.py.)
-/
import Derived.Test.YtehoiibnemjkaaaDoorSxRefAdd
namespace Go.Proofs.YtehoiibnemjkaaaDoor.X
open Go Go.SX Go.RowKit
set_option linter.unusedVariables false
set_option linter.unusedSimpArgs false
def rtimes_sp : SpecSh := { args := [(.agg [(.int .u64 (.z 0)), (.int .u64 (.z 0))]), (.agg [(.int .u64 (.z 0)), (.int .u64 (.z 0))])], res := (.tup [(.agg [(.int .u64 (.z 0)), (.int .u64 (.z 0))]), (.bool .f)]), sh := [.i (some (0, 18446744073709551615)), .i (some (0, 18446744073709551615)), .b] }
set_option maxRecDepth 100000 in
def rtimes_tree : Tree :=
.lett (.div (.v 1) (.z 1)) <|
.lett (.mod (.v 4) (.z 65536)) <|
.lett (.div (.v 1) (.z 65536)) <|
.lett (.mod (.v 6) (.z 65536)) <|
.lett (.div (.v 1) (.z 4294967296)) <|
.lett (.mod (.v 8) (.z 65536)) <|
.lett (.div (.v 1) (.z 281474976710656)) <|
.lett (.mod (.v 10) (.z 65536)) <|
.lett (.div (.v 0) (.z 1)) <|
.lett (.mod (.v 12) (.z 65536)) <|
.lett (.div (.v 0) (.z 65536)) <|
.lett (.mod (.v 14) (.z 65536)) <|
.lett (.div (.v 0) (.z 4294967296)) <|
.lett (.mod (.v 16) (.z 65536)) <|
.lett (.div (.v 0) (.z 281474976710656)) <|
.lett (.mod (.v 18) (.z 65536)) <|
.lett (.div (.v 3) (.z 1)) <|
.lett (.mod (.v 20) (.z 65536)) <|
.lett (.div (.v 3) (.z 65536)) <|
.lett (.mod (.v 22) (.z 65536)) <|
.lett (.div (.v 3) (.z 4294967296)) <|
.lett (.mod (.v 24) (.z 65536)) <|
.lett (.div (.v 3) (.z 281474976710656)) <|
.lett (.mod (.v 26) (.z 65536)) <|
.lett (.div (.v 2) (.z 1)) <|
.lett (.mod (.v 28) (.z 65536)) <|
.lett (.div (.v 2) (.z 65536)) <|
.lett (.mod (.v 30) (.z 65536)) <|
.lett (.div (.v 2) (.z 4294967296)) <|
.lett (.mod (.v 32) (.z 65536)) <|
.lett (.div (.v 2) (.z 281474976710656)) <|
.lett (.mod (.v 34) (.z 65536)) <|
.lett (.mul (.v 5) (.v 21)) <|
.lett (.add (.z 0) (.v 36)) <|
.lett (.mul (.v 5) (.v 23)) <|
.lett (.add (.z 0) (.v 38)) <|
.lett (.mul (.v 7) (.v 21)) <|
.lett (.add (.v 39) (.v 40)) <|
.lett (.mul (.v 5) (.v 25)) <|
.lett (.add (.z 0) (.v 42)) <|
.lett (.mul (.v 7) (.v 23)) <|
.lett (.add (.v 43) (.v 44)) <|
.lett (.mul (.v 9) (.v 21)) <|
.lett (.add (.v 45) (.v 46)) <|
.lett (.mul (.v 5) (.v 27)) <|
.lett (.add (.z 0) (.v 48)) <|
.lett (.mul (.v 7) (.v 25)) <|
.lett (.add (.v 49) (.v 50)) <|
.lett (.mul (.v 9) (.v 23)) <|
.lett (.add (.v 51) (.v 52)) <|
.lett (.mul (.v 11) (.v 21)) <|
.lett (.add (.v 53) (.v 54)) <|
.lett (.mul (.v 5) (.v 29)) <|
.lett (.add (.z 0) (.v 56)) <|
.lett (.mul (.v 7) (.v 27)) <|
.lett (.add (.v 57) (.v 58)) <|
.lett (.mul (.v 9) (.v 25)) <|
.lett (.add (.v 59) (.v 60)) <|
.lett (.mul (.v 11) (.v 23)) <|
.lett (.add (.v 61) (.v 62)) <|
.lett (.mul (.v 13) (.v 21)) <|
.lett (.add (.v 63) (.v 64)) <|
.lett (.mul (.v 5) (.v 31)) <|
.lett (.add (.z 0) (.v 66)) <|
.lett (.mul (.v 7) (.v 29)) <|
.lett (.add (.v 67) (.v 68)) <|
.lett (.mul (.v 9) (.v 27)) <|
.lett (.add (.v 69) (.v 70)) <|
.lett (.mul (.v 11) (.v 25)) <|
.lett (.add (.v 71) (.v 72)) <|
.lett (.mul (.v 13) (.v 23)) <|
.lett (.add (.v 73) (.v 74)) <|
.lett (.mul (.v 15) (.v 21)) <|
.lett (.add (.v 75) (.v 76)) <|
.lett (.mul (.v 5) (.v 33)) <|
.lett (.add (.z 0) (.v 78)) <|
.lett (.mul (.v 7) (.v 31)) <|
.lett (.add (.v 79) (.v 80)) <|
.lett (.mul (.v 9) (.v 29)) <|
.lett (.add (.v 81) (.v 82)) <|
.lett (.mul (.v 11) (.v 27)) <|
.lett (.add (.v 83) (.v 84)) <|
.lett (.mul (.v 13) (.v 25)) <|
.lett (.add (.v 85) (.v 86)) <|
.lett (.mul (.v 15) (.v 23)) <|
.lett (.add (.v 87) (.v 88)) <|
.lett (.mul (.v 17) (.v 21)) <|
.lett (.add (.v 89) (.v 90)) <|
.lett (.mul (.v 5) (.v 35)) <|
.lett (.add (.z 0) (.v 92)) <|
.lett (.mul (.v 7) (.v 33)) <|
.lett (.add (.v 93) (.v 94)) <|
.lett (.mul (.v 9) (.v 31)) <|
.lett (.add (.v 95) (.v 96)) <|
.lett (.mul (.v 11) (.v 29)) <|
.lett (.add (.v 97) (.v 98)) <|
.lett (.mul (.v 13) (.v 27)) <|
.lett (.add (.v 99) (.v 100)) <|
.lett (.mul (.v 15) (.v 25)) <|
.lett (.add (.v 101) (.v 102)) <|
.lett (.mul (.v 17) (.v 23)) <|
.lett (.add (.v 103) (.v 104)) <|
.lett (.mul (.v 19) (.v 21)) <|
.lett (.add (.v 105) (.v 106)) <|
.lett (.mul (.v 7) (.v 35)) <|
.lett (.add (.z 0) (.v 108)) <|
.lett (.mul (.v 9) (.v 33)) <|
.lett (.add (.v 109) (.v 110)) <|
.lett (.mul (.v 11) (.v 31)) <|
.lett (.add (.v 111) (.v 112)) <|
.lett (.mul (.v 13) (.v 29)) <|
.lett (.add (.v 113) (.v 114)) <|
.lett (.mul (.v 15) (.v 27)) <|
.lett (.add (.v 115) (.v 116)) <|
.lett (.mul (.v 17) (.v 25)) <|
.lett (.add (.v 117) (.v 118)) <|
.lett (.mul (.v 19) (.v 23)) <|
.lett (.add (.v 119) (.v 120)) <|
.lett (.mul (.v 9) (.v 35)) <|
.lett (.add (.z 0) (.v 122)) <|
.lett (.mul (.v 11) (.v 33)) <|
.lett (.add (.v 123) (.v 124)) <|
.lett (.mul (.v 13) (.v 31)) <|
.lett (.add (.v 125) (.v 126)) <|
.lett (.mul (.v 15) (.v 29)) <|
.lett (.add (.v 127) (.v 128)) <|
.lett (.mul (.v 17) (.v 27)) <|
.lett (.add (.v 129) (.v 130)) <|
.lett (.mul (.v 19) (.v 25)) <|
.lett (.add (.v 131) (.v 132)) <|
.lett (.mul (.v 11) (.v 35)) <|
.lett (.add (.z 0) (.v 134)) <|
.lett (.mul (.v 13) (.v 33)) <|
.lett (.add (.v 135) (.v 136)) <|
.lett (.mul (.v 15) (.v 31)) <|
.lett (.add (.v 137) (.v 138)) <|
.lett (.mul (.v 17) (.v 29)) <|
.lett (.add (.v 139) (.v 140)) <|
.lett (.mul (.v 19) (.v 27)) <|
.lett (.add (.v 141) (.v 142)) <|
.lett (.mul (.v 13) (.v 35)) <|
.lett (.add (.z 0) (.v 144)) <|
.lett (.mul (.v 15) (.v 33)) <|
.lett (.add (.v 145) (.v 146)) <|
.lett (.mul (.v 17) (.v 31)) <|
.lett (.add (.v 147) (.v 148)) <|
.lett (.mul (.v 19) (.v 29)) <|
.lett (.add (.v 149) (.v 150)) <|
.lett (.mul (.v 15) (.v 35)) <|
.lett (.add (.z 0) (.v 152)) <|
.lett (.mul (.v 17) (.v 33)) <|
.lett (.add (.v 153) (.v 154)) <|
.lett (.mul (.v 19) (.v 31)) <|
.lett (.add (.v 155) (.v 156)) <|
.lett (.mul (.v 17) (.v 35)) <|
.lett (.add (.z 0) (.v 158)) <|
.lett (.mul (.v 19) (.v 33)) <|
.lett (.add (.v 159) (.v 160)) <|
.lett (.mul (.v 19) (.v 35)) <|
.lett (.add (.z 0) (.v 162)) <|
.lett (.add (.v 37) (.z 0)) <|
.lett (.mod (.v 164) (.z 65536)) <|
.lett (.add (.v 37) (.z 0)) <|
.lett (.div (.v 166) (.z 65536)) <|
.lett (.add (.v 41) (.v 167)) <|
.lett (.mod (.v 168) (.z 65536)) <|
.lett (.add (.v 41) (.v 167)) <|
.lett (.div (.v 170) (.z 65536)) <|
.lett (.add (.v 47) (.v 171)) <|
.lett (.mod (.v 172) (.z 65536)) <|
.lett (.add (.v 47) (.v 171)) <|
.lett (.div (.v 174) (.z 65536)) <|
.lett (.add (.v 55) (.v 175)) <|
.lett (.mod (.v 176) (.z 65536)) <|
.lett (.add (.v 55) (.v 175)) <|
.lett (.div (.v 178) (.z 65536)) <|
.lett (.add (.v 65) (.v 179)) <|
.lett (.mod (.v 180) (.z 65536)) <|
.lett (.add (.v 65) (.v 179)) <|
.lett (.div (.v 182) (.z 65536)) <|
.lett (.add (.v 77) (.v 183)) <|
.lett (.mod (.v 184) (.z 65536)) <|
.lett (.add (.v 77) (.v 183)) <|
.lett (.div (.v 186) (.z 65536)) <|
.lett (.add (.v 91) (.v 187)) <|
.lett (.mod (.v 188) (.z 65536)) <|
.lett (.add (.v 91) (.v 187)) <|
.lett (.div (.v 190) (.z 65536)) <|
.lett (.add (.v 107) (.v 191)) <|
.lett (.mod (.v 192) (.z 65536)) <|
.lett (.add (.v 107) (.v 191)) <|
.lett (.div (.v 194) (.z 65536)) <|
.lett (.add (.v 121) (.v 195)) <|
.lett (.mod (.v 196) (.z 65536)) <|
.lett (.add (.v 121) (.v 195)) <|
.lett (.div (.v 198) (.z 65536)) <|
.lett (.add (.v 133) (.v 199)) <|
.lett (.mod (.v 200) (.z 65536)) <|
.lett (.add (.v 133) (.v 199)) <|
.lett (.div (.v 202) (.z 65536)) <|
.lett (.add (.v 143) (.v 203)) <|
.lett (.mod (.v 204) (.z 65536)) <|
.lett (.add (.v 143) (.v 203)) <|
.lett (.div (.v 206) (.z 65536)) <|
.lett (.add (.v 151) (.v 207)) <|
.lett (.mod (.v 208) (.z 65536)) <|
.lett (.add (.v 151) (.v 207)) <|
.lett (.div (.v 210) (.z 65536)) <|
.lett (.add (.v 157) (.v 211)) <|
.lett (.mod (.v 212) (.z 65536)) <|
.lett (.add (.v 157) (.v 211)) <|
.lett (.div (.v 214) (.z 65536)) <|
.lett (.add (.v 161) (.v 215)) <|
.lett (.mod (.v 216) (.z 65536)) <|
.lett (.add (.v 161) (.v 215)) <|
.lett (.div (.v 218) (.z 65536)) <|
.lett (.add (.v 163) (.v 219)) <|
.lett (.mod (.v 220) (.z 65536)) <|
.lett (.add (.v 163) (.v 219)) <|
.lett (.div (.v 222) (.z 65536)) <|
.lett (.add (.z 0) (.v 223)) <|
.lett (.mod (.v 224) (.z 65536)) <|
.lett (.add (.z 0) (.v 223)) <|
.lett (.div (.v 226) (.z 65536)) <|
.lett (.mul (.v 165) (.z 1)) <|
.lett (.add (.z 0) (.v 228)) <|
.lett (.mul (.v 181) (.z 1)) <|
.lett (.add (.z 0) (.v 230)) <|
.lett (.mul (.v 169) (.z 65536)) <|
.lett (.add (.v 229) (.v 232)) <|
.lett (.mul (.v 185) (.z 65536)) <|
.lett (.add (.v 231) (.v 234)) <|
.lett (.mul (.v 173) (.z 4294967296)) <|
.lett (.add (.v 233) (.v 236)) <|
.lett (.mul (.v 189) (.z 4294967296)) <|
.lett (.add (.v 235) (.v 238)) <|
.lett (.mul (.v 177) (.z 281474976710656)) <|
.lett (.add (.v 237) (.v 240)) <|
.lett (.mul (.v 193) (.z 281474976710656)) <|
.lett (.add (.v 239) (.v 242)) <|
.ret (.tup [(.agg [(.int .u64 (.v 243)), (.int .u64 (.v 241))]), (.bool (.or (.cmp .lt (.z 0) (.v 225)) (.or (.cmp .lt (.z 0) (.v 221)) (.or (.cmp .lt (.z 0) (.v 217)) (.or (.cmp .lt (.z 0) (.v 213)) (.or (.cmp .lt (.z 0) (.v 209)) (.or (.cmp .lt (.z 0) (.v 205)) (.or (.cmp .lt (.z 0) (.v 201)) (.cmp .lt (.z 0) (.v 197))))))))))])
noncomputable def rtimes_cx : Ctx := { tys := tys, fns := fns, mets := mets, sps := [], anns := [], trys := [] }
def rtimes_ivs : List (Option (Int × Int)) := [some (0, 18446744073709551615), some (0, 18446744073709551615), some (0, 18446744073709551615), some (0, 18446744073709551615)]
set_option maxRecDepth 100000 in
theorem rtimes_walk : runFn rtimes_cx 3000 21 Tryd.f21 rtimes_sp.args rtimes_ivs = rtimes_tree := by kernel_rfl
noncomputable def rtimes_M : Nat → SpecSem
  | _ => noSem
theorem rtimes_cxok : CxOK Tryd.prog rtimes_cx rtimes_M := ⟨tysOK, fnsOK, fun _ _ h => spNil h, mixedOK, fun _ _ h => trNil h, fun _ _ h => atNil h, metsOK⟩
set_option maxRecDepth 100000 in
def rtimes_tail : Tree :=
.ret (.tup [(.agg [(.int .u64 (.v 243)), (.int .u64 (.v 241))]), (.bool (.or (.cmp .lt (.z 0) (.v 225)) (.or (.cmp .lt (.z 0) (.v 221)) (.or (.cmp .lt (.z 0) (.v 217)) (.or (.cmp .lt (.z 0) (.v 213)) (.or (.cmp .lt (.z 0) (.v 209)) (.or (.cmp .lt (.z 0) (.v 205)) (.or (.cmp .lt (.z 0) (.v 201)) (.cmp .lt (.z 0) (.v 197))))))))))])
set_option maxRecDepth 100000 in
theorem rtimes_den (M : Nat → SpecSem) (R RP : Value → Prop) (F : Ex → St → Js → Env → Prop) (J : Js) (x0 : Int) (x1 : Int) (x2 : Int) (x3 : Int) : Tree.den M R RP F rtimes_tree J [(.i x0), (.i x1), (.i x2), (.i x3)] = (
  ∀ x4 : Int, x4 = x1 / (1 : Int) →
  ∀ x5 : Int, x5 = x4 % (65536 : Int) →
  ∀ x6 : Int, x6 = x1 / (65536 : Int) →
  ∀ x7 : Int, x7 = x6 % (65536 : Int) →
  ∀ x8 : Int, x8 = x1 / (4294967296 : Int) →
  ∀ x9 : Int, x9 = x8 % (65536 : Int) →
  ∀ x10 : Int, x10 = x1 / (281474976710656 : Int) →
  ∀ x11 : Int, x11 = x10 % (65536 : Int) →
  ∀ x12 : Int, x12 = x0 / (1 : Int) →
  ∀ x13 : Int, x13 = x12 % (65536 : Int) →
  ∀ x14 : Int, x14 = x0 / (65536 : Int) →
  ∀ x15 : Int, x15 = x14 % (65536 : Int) →
  ∀ x16 : Int, x16 = x0 / (4294967296 : Int) →
  ∀ x17 : Int, x17 = x16 % (65536 : Int) →
  ∀ x18 : Int, x18 = x0 / (281474976710656 : Int) →
  ∀ x19 : Int, x19 = x18 % (65536 : Int) →
  ∀ x20 : Int, x20 = x3 / (1 : Int) →
  ∀ x21 : Int, x21 = x20 % (65536 : Int) →
  ∀ x22 : Int, x22 = x3 / (65536 : Int) →
  ∀ x23 : Int, x23 = x22 % (65536 : Int) →
  ∀ x24 : Int, x24 = x3 / (4294967296 : Int) →
  ∀ x25 : Int, x25 = x24 % (65536 : Int) →
  ∀ x26 : Int, x26 = x3 / (281474976710656 : Int) →
  ∀ x27 : Int, x27 = x26 % (65536 : Int) →
  ∀ x28 : Int, x28 = x2 / (1 : Int) →
  ∀ x29 : Int, x29 = x28 % (65536 : Int) →
  ∀ x30 : Int, x30 = x2 / (65536 : Int) →
  ∀ x31 : Int, x31 = x30 % (65536 : Int) →
  ∀ x32 : Int, x32 = x2 / (4294967296 : Int) →
  ∀ x33 : Int, x33 = x32 % (65536 : Int) →
  ∀ x34 : Int, x34 = x2 / (281474976710656 : Int) →
  ∀ x35 : Int, x35 = x34 % (65536 : Int) →
  ∀ x36 : Int, x36 = x5 * x21 →
  ∀ x37 : Int, x37 = (0 : Int) + x36 →
  ∀ x38 : Int, x38 = x5 * x23 →
  ∀ x39 : Int, x39 = (0 : Int) + x38 →
  ∀ x40 : Int, x40 = x7 * x21 →
  ∀ x41 : Int, x41 = x39 + x40 →
  ∀ x42 : Int, x42 = x5 * x25 →
  ∀ x43 : Int, x43 = (0 : Int) + x42 →
  ∀ x44 : Int, x44 = x7 * x23 →
  ∀ x45 : Int, x45 = x43 + x44 →
  ∀ x46 : Int, x46 = x9 * x21 →
  ∀ x47 : Int, x47 = x45 + x46 →
  ∀ x48 : Int, x48 = x5 * x27 →
  ∀ x49 : Int, x49 = (0 : Int) + x48 →
  ∀ x50 : Int, x50 = x7 * x25 →
  ∀ x51 : Int, x51 = x49 + x50 →
  ∀ x52 : Int, x52 = x9 * x23 →
  ∀ x53 : Int, x53 = x51 + x52 →
  ∀ x54 : Int, x54 = x11 * x21 →
  ∀ x55 : Int, x55 = x53 + x54 →
  ∀ x56 : Int, x56 = x5 * x29 →
  ∀ x57 : Int, x57 = (0 : Int) + x56 →
  ∀ x58 : Int, x58 = x7 * x27 →
  ∀ x59 : Int, x59 = x57 + x58 →
  ∀ x60 : Int, x60 = x9 * x25 →
  ∀ x61 : Int, x61 = x59 + x60 →
  ∀ x62 : Int, x62 = x11 * x23 →
  ∀ x63 : Int, x63 = x61 + x62 →
  ∀ x64 : Int, x64 = x13 * x21 →
  ∀ x65 : Int, x65 = x63 + x64 →
  ∀ x66 : Int, x66 = x5 * x31 →
  ∀ x67 : Int, x67 = (0 : Int) + x66 →
  ∀ x68 : Int, x68 = x7 * x29 →
  ∀ x69 : Int, x69 = x67 + x68 →
  ∀ x70 : Int, x70 = x9 * x27 →
  ∀ x71 : Int, x71 = x69 + x70 →
  ∀ x72 : Int, x72 = x11 * x25 →
  ∀ x73 : Int, x73 = x71 + x72 →
  ∀ x74 : Int, x74 = x13 * x23 →
  ∀ x75 : Int, x75 = x73 + x74 →
  ∀ x76 : Int, x76 = x15 * x21 →
  ∀ x77 : Int, x77 = x75 + x76 →
  ∀ x78 : Int, x78 = x5 * x33 →
  ∀ x79 : Int, x79 = (0 : Int) + x78 →
  ∀ x80 : Int, x80 = x7 * x31 →
  ∀ x81 : Int, x81 = x79 + x80 →
  ∀ x82 : Int, x82 = x9 * x29 →
  ∀ x83 : Int, x83 = x81 + x82 →
  ∀ x84 : Int, x84 = x11 * x27 →
  ∀ x85 : Int, x85 = x83 + x84 →
  ∀ x86 : Int, x86 = x13 * x25 →
  ∀ x87 : Int, x87 = x85 + x86 →
  ∀ x88 : Int, x88 = x15 * x23 →
  ∀ x89 : Int, x89 = x87 + x88 →
  ∀ x90 : Int, x90 = x17 * x21 →
  ∀ x91 : Int, x91 = x89 + x90 →
  ∀ x92 : Int, x92 = x5 * x35 →
  ∀ x93 : Int, x93 = (0 : Int) + x92 →
  ∀ x94 : Int, x94 = x7 * x33 →
  ∀ x95 : Int, x95 = x93 + x94 →
  ∀ x96 : Int, x96 = x9 * x31 →
  ∀ x97 : Int, x97 = x95 + x96 →
  ∀ x98 : Int, x98 = x11 * x29 →
  ∀ x99 : Int, x99 = x97 + x98 →
  ∀ x100 : Int, x100 = x13 * x27 →
  ∀ x101 : Int, x101 = x99 + x100 →
  ∀ x102 : Int, x102 = x15 * x25 →
  ∀ x103 : Int, x103 = x101 + x102 →
  ∀ x104 : Int, x104 = x17 * x23 →
  ∀ x105 : Int, x105 = x103 + x104 →
  ∀ x106 : Int, x106 = x19 * x21 →
  ∀ x107 : Int, x107 = x105 + x106 →
  ∀ x108 : Int, x108 = x7 * x35 →
  ∀ x109 : Int, x109 = (0 : Int) + x108 →
  ∀ x110 : Int, x110 = x9 * x33 →
  ∀ x111 : Int, x111 = x109 + x110 →
  ∀ x112 : Int, x112 = x11 * x31 →
  ∀ x113 : Int, x113 = x111 + x112 →
  ∀ x114 : Int, x114 = x13 * x29 →
  ∀ x115 : Int, x115 = x113 + x114 →
  ∀ x116 : Int, x116 = x15 * x27 →
  ∀ x117 : Int, x117 = x115 + x116 →
  ∀ x118 : Int, x118 = x17 * x25 →
  ∀ x119 : Int, x119 = x117 + x118 →
  ∀ x120 : Int, x120 = x19 * x23 →
  ∀ x121 : Int, x121 = x119 + x120 →
  ∀ x122 : Int, x122 = x9 * x35 →
  ∀ x123 : Int, x123 = (0 : Int) + x122 →
  ∀ x124 : Int, x124 = x11 * x33 →
  ∀ x125 : Int, x125 = x123 + x124 →
  ∀ x126 : Int, x126 = x13 * x31 →
  ∀ x127 : Int, x127 = x125 + x126 →
  ∀ x128 : Int, x128 = x15 * x29 →
  ∀ x129 : Int, x129 = x127 + x128 →
  ∀ x130 : Int, x130 = x17 * x27 →
  ∀ x131 : Int, x131 = x129 + x130 →
  ∀ x132 : Int, x132 = x19 * x25 →
  ∀ x133 : Int, x133 = x131 + x132 →
  ∀ x134 : Int, x134 = x11 * x35 →
  ∀ x135 : Int, x135 = (0 : Int) + x134 →
  ∀ x136 : Int, x136 = x13 * x33 →
  ∀ x137 : Int, x137 = x135 + x136 →
  ∀ x138 : Int, x138 = x15 * x31 →
  ∀ x139 : Int, x139 = x137 + x138 →
  ∀ x140 : Int, x140 = x17 * x29 →
  ∀ x141 : Int, x141 = x139 + x140 →
  ∀ x142 : Int, x142 = x19 * x27 →
  ∀ x143 : Int, x143 = x141 + x142 →
  ∀ x144 : Int, x144 = x13 * x35 →
  ∀ x145 : Int, x145 = (0 : Int) + x144 →
  ∀ x146 : Int, x146 = x15 * x33 →
  ∀ x147 : Int, x147 = x145 + x146 →
  ∀ x148 : Int, x148 = x17 * x31 →
  ∀ x149 : Int, x149 = x147 + x148 →
  ∀ x150 : Int, x150 = x19 * x29 →
  ∀ x151 : Int, x151 = x149 + x150 →
  ∀ x152 : Int, x152 = x15 * x35 →
  ∀ x153 : Int, x153 = (0 : Int) + x152 →
  ∀ x154 : Int, x154 = x17 * x33 →
  ∀ x155 : Int, x155 = x153 + x154 →
  ∀ x156 : Int, x156 = x19 * x31 →
  ∀ x157 : Int, x157 = x155 + x156 →
  ∀ x158 : Int, x158 = x17 * x35 →
  ∀ x159 : Int, x159 = (0 : Int) + x158 →
  ∀ x160 : Int, x160 = x19 * x33 →
  ∀ x161 : Int, x161 = x159 + x160 →
  ∀ x162 : Int, x162 = x19 * x35 →
  ∀ x163 : Int, x163 = (0 : Int) + x162 →
  ∀ x164 : Int, x164 = x37 + (0 : Int) →
  ∀ x165 : Int, x165 = x164 % (65536 : Int) →
  ∀ x166 : Int, x166 = x37 + (0 : Int) →
  ∀ x167 : Int, x167 = x166 / (65536 : Int) →
  ∀ x168 : Int, x168 = x41 + x167 →
  ∀ x169 : Int, x169 = x168 % (65536 : Int) →
  ∀ x170 : Int, x170 = x41 + x167 →
  ∀ x171 : Int, x171 = x170 / (65536 : Int) →
  ∀ x172 : Int, x172 = x47 + x171 →
  ∀ x173 : Int, x173 = x172 % (65536 : Int) →
  ∀ x174 : Int, x174 = x47 + x171 →
  ∀ x175 : Int, x175 = x174 / (65536 : Int) →
  ∀ x176 : Int, x176 = x55 + x175 →
  ∀ x177 : Int, x177 = x176 % (65536 : Int) →
  ∀ x178 : Int, x178 = x55 + x175 →
  ∀ x179 : Int, x179 = x178 / (65536 : Int) →
  ∀ x180 : Int, x180 = x65 + x179 →
  ∀ x181 : Int, x181 = x180 % (65536 : Int) →
  ∀ x182 : Int, x182 = x65 + x179 →
  ∀ x183 : Int, x183 = x182 / (65536 : Int) →
  ∀ x184 : Int, x184 = x77 + x183 →
  ∀ x185 : Int, x185 = x184 % (65536 : Int) →
  ∀ x186 : Int, x186 = x77 + x183 →
  ∀ x187 : Int, x187 = x186 / (65536 : Int) →
  ∀ x188 : Int, x188 = x91 + x187 →
  ∀ x189 : Int, x189 = x188 % (65536 : Int) →
  ∀ x190 : Int, x190 = x91 + x187 →
  ∀ x191 : Int, x191 = x190 / (65536 : Int) →
  ∀ x192 : Int, x192 = x107 + x191 →
  ∀ x193 : Int, x193 = x192 % (65536 : Int) →
  ∀ x194 : Int, x194 = x107 + x191 →
  ∀ x195 : Int, x195 = x194 / (65536 : Int) →
  ∀ x196 : Int, x196 = x121 + x195 →
  ∀ x197 : Int, x197 = x196 % (65536 : Int) →
  ∀ x198 : Int, x198 = x121 + x195 →
  ∀ x199 : Int, x199 = x198 / (65536 : Int) →
  ∀ x200 : Int, x200 = x133 + x199 →
  ∀ x201 : Int, x201 = x200 % (65536 : Int) →
  ∀ x202 : Int, x202 = x133 + x199 →
  ∀ x203 : Int, x203 = x202 / (65536 : Int) →
  ∀ x204 : Int, x204 = x143 + x203 →
  ∀ x205 : Int, x205 = x204 % (65536 : Int) →
  ∀ x206 : Int, x206 = x143 + x203 →
  ∀ x207 : Int, x207 = x206 / (65536 : Int) →
  ∀ x208 : Int, x208 = x151 + x207 →
  ∀ x209 : Int, x209 = x208 % (65536 : Int) →
  ∀ x210 : Int, x210 = x151 + x207 →
  ∀ x211 : Int, x211 = x210 / (65536 : Int) →
  ∀ x212 : Int, x212 = x157 + x211 →
  ∀ x213 : Int, x213 = x212 % (65536 : Int) →
  ∀ x214 : Int, x214 = x157 + x211 →
  ∀ x215 : Int, x215 = x214 / (65536 : Int) →
  ∀ x216 : Int, x216 = x161 + x215 →
  ∀ x217 : Int, x217 = x216 % (65536 : Int) →
  ∀ x218 : Int, x218 = x161 + x215 →
  ∀ x219 : Int, x219 = x218 / (65536 : Int) →
  ∀ x220 : Int, x220 = x163 + x219 →
  ∀ x221 : Int, x221 = x220 % (65536 : Int) →
  ∀ x222 : Int, x222 = x163 + x219 →
  ∀ x223 : Int, x223 = x222 / (65536 : Int) →
  ∀ x224 : Int, x224 = (0 : Int) + x223 →
  ∀ x225 : Int, x225 = x224 % (65536 : Int) →
  ∀ x226 : Int, x226 = (0 : Int) + x223 →
  ∀ x227 : Int, x227 = x226 / (65536 : Int) →
  ∀ x228 : Int, x228 = x165 * (1 : Int) →
  ∀ x229 : Int, x229 = (0 : Int) + x228 →
  ∀ x230 : Int, x230 = x181 * (1 : Int) →
  ∀ x231 : Int, x231 = (0 : Int) + x230 →
  ∀ x232 : Int, x232 = x169 * (65536 : Int) →
  ∀ x233 : Int, x233 = x229 + x232 →
  ∀ x234 : Int, x234 = x185 * (65536 : Int) →
  ∀ x235 : Int, x235 = x231 + x234 →
  ∀ x236 : Int, x236 = x173 * (4294967296 : Int) →
  ∀ x237 : Int, x237 = x233 + x236 →
  ∀ x238 : Int, x238 = x189 * (4294967296 : Int) →
  ∀ x239 : Int, x239 = x235 + x238 →
  ∀ x240 : Int, x240 = x177 * (281474976710656 : Int) →
  ∀ x241 : Int, x241 = x237 + x240 →
  ∀ x242 : Int, x242 = x193 * (281474976710656 : Int) →
  ∀ x243 : Int, x243 = x239 + x242 →
  Tree.den M R RP F rtimes_tail J [(.i x0), (.i x1), (.i x2), (.i x3), (.i x4), (.i x5), (.i x6), (.i x7), (.i x8), (.i x9), (.i x10), (.i x11), (.i x12), (.i x13), (.i x14), (.i x15), (.i x16), (.i x17), (.i x18), (.i x19), (.i x20), (.i x21), (.i x22), (.i x23), (.i x24), (.i x25), (.i x26), (.i x27), (.i x28), (.i x29), (.i x30), (.i x31), (.i x32), (.i x33), (.i x34), (.i x35), (.i x36), (.i x37), (.i x38), (.i x39), (.i x40), (.i x41), (.i x42), (.i x43), (.i x44), (.i x45), (.i x46), (.i x47), (.i x48), (.i x49), (.i x50), (.i x51), (.i x52), (.i x53), (.i x54), (.i x55), (.i x56), (.i x57), (.i x58), (.i x59), (.i x60), (.i x61), (.i x62), (.i x63), (.i x64), (.i x65), (.i x66), (.i x67), (.i x68), (.i x69), (.i x70), (.i x71), (.i x72), (.i x73), (.i x74), (.i x75), (.i x76), (.i x77), (.i x78), (.i x79), (.i x80), (.i x81), (.i x82), (.i x83), (.i x84), (.i x85), (.i x86), (.i x87), (.i x88), (.i x89), (.i x90), (.i x91), (.i x92), (.i x93), (.i x94), (.i x95), (.i x96), (.i x97), (.i x98), (.i x99), (.i x100), (.i x101), (.i x102), (.i x103), (.i x104), (.i x105), (.i x106), (.i x107), (.i x108), (.i x109), (.i x110), (.i x111), (.i x112), (.i x113), (.i x114), (.i x115), (.i x116), (.i x117), (.i x118), (.i x119), (.i x120), (.i x121), (.i x122), (.i x123), (.i x124), (.i x125), (.i x126), (.i x127), (.i x128), (.i x129), (.i x130), (.i x131), (.i x132), (.i x133), (.i x134), (.i x135), (.i x136), (.i x137), (.i x138), (.i x139), (.i x140), (.i x141), (.i x142), (.i x143), (.i x144), (.i x145), (.i x146), (.i x147), (.i x148), (.i x149), (.i x150), (.i x151), (.i x152), (.i x153), (.i x154), (.i x155), (.i x156), (.i x157), (.i x158), (.i x159), (.i x160), (.i x161), (.i x162), (.i x163), (.i x164), (.i x165), (.i x166), (.i x167), (.i x168), (.i x169), (.i x170), (.i x171), (.i x172), (.i x173), (.i x174), (.i x175), (.i x176), (.i x177), (.i x178), (.i x179), (.i x180), (.i x181), (.i x182), (.i x183), (.i x184), (.i x185), (.i x186), (.i x187), (.i x188), (.i x189), (.i x190), (.i x191), (.i x192), (.i x193), (.i x194), (.i x195), (.i x196), (.i x197), (.i x198), (.i x199), (.i x200), (.i x201), (.i x202), (.i x203), (.i x204), (.i x205), (.i x206), (.i x207), (.i x208), (.i x209), (.i x210), (.i x211), (.i x212), (.i x213), (.i x214), (.i x215), (.i x216), (.i x217), (.i x218), (.i x219), (.i x220), (.i x221), (.i x222), (.i x223), (.i x224), (.i x225), (.i x226), (.i x227), (.i x228), (.i x229), (.i x230), (.i x231), (.i x232), (.i x233), (.i x234), (.i x235), (.i x236), (.i x237), (.i x238), (.i x239), (.i x240), (.i x241), (.i x242), (.i x243)]) := by kernel_rfl

def rtimes_sem : SpecSem := { pre := fun cs => match cs with | [.i a, .i b, .i c, .i d] => IsU a ∧ IsU b ∧ IsU c ∧ IsU d | _ => False, out := fun cs => match cs with | [.i a, .i b, .i c, .i d] => [.i (val a b * val c d / 18446744073709551616 % 18446744073709551616), .i (val a b * val c d % 18446744073709551616), .b (decide (340282366920938463463374607431768211456 ≤ val a b * val c d))] | _ => [] }
set_option maxRecDepth 20000 in
theorem rtimes_ok : SpecOK Tryd.prog 21 rtimes_sp rtimes_sem := by
  refine spec_of_tree rtimes_cxok Tryd.func21 (by kernel_rfl) (by kernel_rfl) rtimes_walk rfl ?_
  intro cs hpre
  match cs, hpre with
  | [.i a, .i b, .i c, .i d], ⟨ha, hb, hc, hd⟩ =>
    have ha' := ha; have hb' := hb; have hc' := hc; have hd' := hd
    obtain ⟨h1, h2⟩ := ha'
    obtain ⟨h3, h4⟩ := hb'
    obtain ⟨h5, h6⟩ := hc'
    obtain ⟨h7, h8⟩ := hd'
    refine ⟨rfl, IvsB.ok (by simp only [rtimes_ivs, IvsB, Cv.int, and_true]; omega), ?_, ?_⟩
    · simp only [rtimes_sem, rtimes_sp, Fits, and_true]
      omega
    · have hab := val_rng ha hb
      have hcd := val_rng hc hd
      rw [rtimes_den]
      intro x4 e4 x5 e5 x6 e6 x7 e7 x8 e8 x9 e9 x10 e10 x11 e11 x12 e12 x13 e13 x14 e14 x15 e15 x16 e16 x17 e17 x18 e18 x19 e19 x20 e20 x21 e21 x22 e22 x23 e23 x24 e24 x25 e25 x26 e26 x27 e27 x28 e28 x29 e29 x30 e30 x31 e31 x32 e32 x33 e33 x34 e34 x35 e35 x36 e36 x37 e37 x38 e38 x39 e39 x40 e40 x41 e41 x42 e42 x43 e43 x44 e44 x45 e45 x46 e46 x47 e47 x48 e48 x49 e49 x50 e50 x51 e51 x52 e52 x53 e53 x54 e54 x55 e55 x56 e56 x57 e57 x58 e58 x59 e59 x60 e60 x61 e61 x62 e62 x63 e63 x64 e64 x65 e65 x66 e66 x67 e67 x68 e68 x69 e69 x70 e70 x71 e71 x72 e72 x73 e73 x74 e74 x75 e75 x76 e76 x77 e77 x78 e78 x79 e79 x80 e80 x81 e81 x82 e82 x83 e83 x84 e84 x85 e85 x86 e86 x87 e87 x88 e88 x89 e89 x90 e90 x91 e91 x92 e92 x93 e93 x94 e94 x95 e95 x96 e96 x97 e97 x98 e98 x99 e99 x100 e100 x101 e101 x102 e102 x103 e103 x104 e104 x105 e105 x106 e106 x107 e107 x108 e108 x109 e109 x110 e110 x111 e111 x112 e112 x113 e113 x114 e114 x115 e115 x116 e116 x117 e117 x118 e118 x119 e119 x120 e120 x121 e121 x122 e122 x123 e123 x124 e124 x125 e125 x126 e126 x127 e127 x128 e128 x129 e129 x130 e130 x131 e131 x132 e132 x133 e133 x134 e134 x135 e135 x136 e136 x137 e137 x138 e138 x139 e139 x140 e140 x141 e141 x142 e142 x143 e143 x144 e144 x145 e145 x146 e146 x147 e147 x148 e148 x149 e149 x150 e150 x151 e151 x152 e152 x153 e153 x154 e154 x155 e155 x156 e156 x157 e157 x158 e158 x159 e159 x160 e160 x161 e161 x162 e162 x163 e163 x164 e164 x165 e165 x166 e166 x167 e167 x168 e168 x169 e169 x170 e170 x171 e171 x172 e172 x173 e173 x174 e174 x175 e175 x176 e176 x177 e177 x178 e178 x179 e179 x180 e180 x181 e181 x182 e182 x183 e183 x184 e184 x185 e185 x186 e186 x187 e187 x188 e188 x189 e189 x190 e190 x191 e191 x192 e192 x193 e193 x194 e194 x195 e195 x196 e196 x197 e197 x198 e198 x199 e199 x200 e200 x201 e201 x202 e202 x203 e203 x204 e204 x205 e205 x206 e206 x207 e207 x208 e208 x209 e209 x210 e210 x211 e211 x212 e212 x213 e213 x214 e214 x215 e215 x216 e216 x217 e217 x218 e218 x219 e219 x220 e220 x221 e221 x222 e222 x223 e223 x224 e224 x225 e225 x226 e226 x227 e227 x228 e228 x229 e229 x230 e230 x231 e231 x232 e232 x233 e233 x234 e234 x235 e235 x236 e236 x237 e237 x238 e238 x239 e239 x240 e240 x241 e241 x242 e242 x243 e243
      have p1 := word4 e4 e5 e6 e7 e8 e9 e10 e11 hb
      obtain ⟨p1, b5, b7, b9, b11⟩ := p1
      have p0 := word4 e12 e13 e14 e15 e16 e17 e18 e19 ha
      obtain ⟨p0, b13, b15, b17, b19⟩ := p0
      have p3 := word4 e20 e21 e22 e23 e24 e25 e26 e27 hd
      obtain ⟨p3, b21, b23, b25, b27⟩ := p3
      have p2 := word4 e28 e29 e30 e31 e32 e33 e34 e35 hc
      obtain ⟨p2, b29, b31, b33, b35⟩ := p2
      have q36 := mul0 e36 b5 b21
      have q37 := zero_add0 e37 q36
      have q38 := mul0 e38 b5 b23
      have q39 := zero_add0 e39 q38
      have q40 := mul0 e40 b7 b21
      have q41 := add00 e41 q39 q40
      have q42 := mul0 e42 b5 b25
      have q43 := zero_add0 e43 q42
      have q44 := mul0 e44 b7 b23
      have q45 := add00 e45 q43 q44
      have q46 := mul0 e46 b9 b21
      have q47 := add00 e47 q45 q46
      have q48 := mul0 e48 b5 b27
      have q49 := zero_add0 e49 q48
      have q50 := mul0 e50 b7 b25
      have q51 := add00 e51 q49 q50
      have q52 := mul0 e52 b9 b23
      have q53 := add00 e53 q51 q52
      have q54 := mul0 e54 b11 b21
      have q55 := add00 e55 q53 q54
      have q56 := mul0 e56 b5 b29
      have q57 := zero_add0 e57 q56
      have q58 := mul0 e58 b7 b27
      have q59 := add00 e59 q57 q58
      have q60 := mul0 e60 b9 b25
      have q61 := add00 e61 q59 q60
      have q62 := mul0 e62 b11 b23
      have q63 := add00 e63 q61 q62
      have q64 := mul0 e64 b13 b21
      have q65 := add00 e65 q63 q64
      have q66 := mul0 e66 b5 b31
      have q67 := zero_add0 e67 q66
      have q68 := mul0 e68 b7 b29
      have q69 := add00 e69 q67 q68
      have q70 := mul0 e70 b9 b27
      have q71 := add00 e71 q69 q70
      have q72 := mul0 e72 b11 b25
      have q73 := add00 e73 q71 q72
      have q74 := mul0 e74 b13 b23
      have q75 := add00 e75 q73 q74
      have q76 := mul0 e76 b15 b21
      have q77 := add00 e77 q75 q76
      have q78 := mul0 e78 b5 b33
      have q79 := zero_add0 e79 q78
      have q80 := mul0 e80 b7 b31
      have q81 := add00 e81 q79 q80
      have q82 := mul0 e82 b9 b29
      have q83 := add00 e83 q81 q82
      have q84 := mul0 e84 b11 b27
      have q85 := add00 e85 q83 q84
      have q86 := mul0 e86 b13 b25
      have q87 := add00 e87 q85 q86
      have q88 := mul0 e88 b15 b23
      have q89 := add00 e89 q87 q88
      have q90 := mul0 e90 b17 b21
      have q91 := add00 e91 q89 q90
      have q92 := mul0 e92 b5 b35
      have q93 := zero_add0 e93 q92
      have q94 := mul0 e94 b7 b33
      have q95 := add00 e95 q93 q94
      have q96 := mul0 e96 b9 b31
      have q97 := add00 e97 q95 q96
      have q98 := mul0 e98 b11 b29
      have q99 := add00 e99 q97 q98
      have q100 := mul0 e100 b13 b27
      have q101 := add00 e101 q99 q100
      have q102 := mul0 e102 b15 b25
      have q103 := add00 e103 q101 q102
      have q104 := mul0 e104 b17 b23
      have q105 := add00 e105 q103 q104
      have q106 := mul0 e106 b19 b21
      have q107 := add00 e107 q105 q106
      have q108 := mul0 e108 b7 b35
      have q109 := zero_add0 e109 q108
      have q110 := mul0 e110 b9 b33
      have q111 := add00 e111 q109 q110
      have q112 := mul0 e112 b11 b31
      have q113 := add00 e113 q111 q112
      have q114 := mul0 e114 b13 b29
      have q115 := add00 e115 q113 q114
      have q116 := mul0 e116 b15 b27
      have q117 := add00 e117 q115 q116
      have q118 := mul0 e118 b17 b25
      have q119 := add00 e119 q117 q118
      have q120 := mul0 e120 b19 b23
      have q121 := add00 e121 q119 q120
      have q122 := mul0 e122 b9 b35
      have q123 := zero_add0 e123 q122
      have q124 := mul0 e124 b11 b33
      have q125 := add00 e125 q123 q124
      have q126 := mul0 e126 b13 b31
      have q127 := add00 e127 q125 q126
      have q128 := mul0 e128 b15 b29
      have q129 := add00 e129 q127 q128
      have q130 := mul0 e130 b17 b27
      have q131 := add00 e131 q129 q130
      have q132 := mul0 e132 b19 b25
      have q133 := add00 e133 q131 q132
      have q134 := mul0 e134 b11 b35
      have q135 := zero_add0 e135 q134
      have q136 := mul0 e136 b13 b33
      have q137 := add00 e137 q135 q136
      have q138 := mul0 e138 b15 b31
      have q139 := add00 e139 q137 q138
      have q140 := mul0 e140 b17 b29
      have q141 := add00 e141 q139 q140
      have q142 := mul0 e142 b19 b27
      have q143 := add00 e143 q141 q142
      have q144 := mul0 e144 b13 b35
      have q145 := zero_add0 e145 q144
      have q146 := mul0 e146 b15 b33
      have q147 := add00 e147 q145 q146
      have q148 := mul0 e148 b17 b31
      have q149 := add00 e149 q147 q148
      have q150 := mul0 e150 b19 b29
      have q151 := add00 e151 q149 q150
      have q152 := mul0 e152 b15 b35
      have q153 := zero_add0 e153 q152
      have q154 := mul0 e154 b17 b33
      have q155 := add00 e155 q153 q154
      have q156 := mul0 e156 b19 b31
      have q157 := add00 e157 q155 q156
      have q158 := mul0 e158 b17 b35
      have q159 := zero_add0 e159 q158
      have q160 := mul0 e160 b19 b33
      have q161 := add00 e161 q159 q160
      have q162 := mul0 e162 b19 b35
      have q163 := zero_add0 e163 q162
      have n0 : x37 = x5 * x21 := by rw [e37, e36, Int.zero_add]
      have n1 : x41 = x5 * x23 + x7 * x21 := by rw [e41, e40, e39, e38, Int.zero_add]
      have n2 : x47 = x5 * x25 + x7 * x23 + x9 * x21 := by rw [e47, e46, e45, e44, e43, e42, Int.zero_add]
      have n3 : x55 = x5 * x27 + x7 * x25 + x9 * x23 + x11 * x21 := by rw [e55, e54, e53, e52, e51, e50, e49, e48, Int.zero_add]
      have n4 : x65 = x5 * x29 + x7 * x27 + x9 * x25 + x11 * x23 + x13 * x21 := by rw [e65, e64, e63, e62, e61, e60, e59, e58, e57, e56, Int.zero_add]
      have n5 : x77 = x5 * x31 + x7 * x29 + x9 * x27 + x11 * x25 + x13 * x23 + x15 * x21 := by rw [e77, e76, e75, e74, e73, e72, e71, e70, e69, e68, e67, e66, Int.zero_add]
      have n6 : x91 = x5 * x33 + x7 * x31 + x9 * x29 + x11 * x27 + x13 * x25 + x15 * x23 + x17 * x21 := by rw [e91, e90, e89, e88, e87, e86, e85, e84, e83, e82, e81, e80, e79, e78, Int.zero_add]
      have n7 : x107 = x5 * x35 + x7 * x33 + x9 * x31 + x11 * x29 + x13 * x27 + x15 * x25 + x17 * x23 + x19 * x21 := by rw [e107, e106, e105, e104, e103, e102, e101, e100, e99, e98, e97, e96, e95, e94, e93, e92, Int.zero_add]
      have n8 : x121 = x7 * x35 + x9 * x33 + x11 * x31 + x13 * x29 + x15 * x27 + x17 * x25 + x19 * x23 := by rw [e121, e120, e119, e118, e117, e116, e115, e114, e113, e112, e111, e110, e109, e108, Int.zero_add]
      have n9 : x133 = x9 * x35 + x11 * x33 + x13 * x31 + x15 * x29 + x17 * x27 + x19 * x25 := by rw [e133, e132, e131, e130, e129, e128, e127, e126, e125, e124, e123, e122, Int.zero_add]
      have n10 : x143 = x11 * x35 + x13 * x33 + x15 * x31 + x17 * x29 + x19 * x27 := by rw [e143, e142, e141, e140, e139, e138, e137, e136, e135, e134, Int.zero_add]
      have n11 : x151 = x13 * x35 + x15 * x33 + x17 * x31 + x19 * x29 := by rw [e151, e150, e149, e148, e147, e146, e145, e144, Int.zero_add]
      have n12 : x157 = x15 * x35 + x17 * x33 + x19 * x31 := by rw [e157, e156, e155, e154, e153, e152, Int.zero_add]
      have n13 : x161 = x17 * x35 + x19 * x33 := by rw [e161, e160, e159, e158, Int.zero_add]
      have n14 : x163 = x19 * x35 := by rw [e163, e162, Int.zero_add]
      have s164 := step0 e164 e165 (same e164 e166 e167) q37
      have s168 := step e168 e169 (same e168 e170 e171) q41 s164.2.2.2
      have s172 := step e172 e173 (same e172 e174 e175) q47 s168.2.2.2
      have s176 := step e176 e177 (same e176 e178 e179) q55 s172.2.2.2
      have s180 := step e180 e181 (same e180 e182 e183) q65 s176.2.2.2
      have s184 := step e184 e185 (same e184 e186 e187) q77 s180.2.2.2
      have s188 := step e188 e189 (same e188 e190 e191) q91 s184.2.2.2
      have s192 := step e192 e193 (same e192 e194 e195) q107 s188.2.2.2
      have s196 := step e196 e197 (same e196 e198 e199) q121 s192.2.2.2
      have s200 := step e200 e201 (same e200 e202 e203) q133 s196.2.2.2
      have s204 := step e204 e205 (same e204 e206 e207) q143 s200.2.2.2
      have s208 := step e208 e209 (same e208 e210 e211) q151 s204.2.2.2
      have s212 := step e212 e213 (same e212 e214 e215) q157 s208.2.2.2
      have s216 := step e216 e217 (same e216 e218 e219) q161 s212.2.2.2
      have s220 := step e220 e221 (same e220 e222 e223) q163 s216.2.2.2
      have s224 := stepz e224 e225 (same e224 e226 e227) s220.2.2.2
      have w := whole8 e228 e229 e230 e231 e232 e233 e234 e235 e236 e237 e238 e239 e240 e241 e242 e243
      have z := chain8 s164 s168 s172 s176 s180 s184 s188 s192 w.1 w.2
      have y := chain8c s196 s200 s204 s208 s212 s216 s220 s224
      have v := prodV x5 x7 x9 x11 x13 x15 x17 x19 x21 x23 x25 x27 x29 x31 x33 x35
      have v2 : val a b * val c d = x37 + 65536 * x41 + 4294967296 * x47 + 281474976710656 * x55 + 18446744073709551616 * x65 + 1208925819614629174706176 * x77 + 79228162514264337593543950336 * x91 + 5192296858534827628530496329220096 * x107 + 340282366920938463463374607431768211456 * x121 + 22300745198530623141535718272648361505980416 * x133 + 1461501637330902918203684832716283019655932542976 * x143 + 95780971304118053647396689196894323976171195136475136 * x151 + 6277101735386680763835789423207666416102355444464034512896 * x157 + 411376139330301510538742295639337626245683966408394965837152256 * x161 + 26959946667150639794667015087019630673637144422540572481103610249216 * x163 := by rw [val_dig p1 p0, val_dig p3 p2, v, n0, n1, n2, n3, n4, n5, n6, n7, n8, n9, n10, n11, n12, n13, n14]
      clear v n0 n1 n2 n3 n4 n5 n6 n7 n8 n9 n10 n11 n12 n13 n14
      have hv := prod_lt hab hcd
      simp only [rtimes_sem, rtimes_sp, rtimes_tree, rtimes_tail, Tree.den, LE.den, Cv.list, placeA, List.getElem?_cons_zero, List.getElem?_cons_succ, IE.den, BE.den, At.den, CA.den, Env.get, Cv.int, Cv.bool, List.cons_append, List.nil_append, List.map_cons, List.map_nil, bindRes, bindEq, Fits, SV.den, denL, place, placeL, eq_t, eq_f, lt_t, lt_f, le_t, le_f, beq_iff_eq, beq_eq_false_iff_ne, ne_eq, reduceCtorEq, b_dec, decide_eq_true_eq, decide_eq_false_iff_not, Bool.not_eq_false', Bool.or_eq_true, Bool.or_eq_false_iff, Bool.and_eq_false_iff, true_iff, false_iff, Bool.false_eq_true, Bool.not_eq_true', Bool.and_eq_true, Bool.not_true, Bool.not_false, List.cons.injEq, Cv.i.injEq, Cv.b.injEq, and_true, true_and, agg_inj, tup_inj, Value.int.injEq, Value.bool.injEq]
      obtain ⟨r1, r2, r3⟩ := fin_times z y v2 hv
      exact ⟨⟨r1, r2⟩, r3⟩

end Go.Proofs.YtehoiibnemjkaaaDoor.X
