/- Functions of the program, told by the machine of values, and what they answer: part 1. -/
import Derived.Test.YtblabbcmokldiaaV3
import Derived.Test.YtblabbcmokldiaaProg
import Derived.KernelRfl
import Derived.Test.YtblabbcmokldiaaV4
open Go Go.VM
set_option linter.unusedVariables false
set_option maxRecDepth 100000
namespace Go.Proofs.Ytblabbcmokldiaa.Vm
def T2 : TyD := { under := (.int .i64), size := 1, bytes := 8, zv := [((.int .i64 (0 : Int)), .pr)], leafs := [(.int .i64)], deep := false }
def T3 : TyD := { under := (.int .i64), size := 1, bytes := 8, zv := [((.int .i64 (0 : Int)), .pr)], leafs := [(.int .i64)], deep := false }
def T4 : TyD := { under := .bool, size := 1, bytes := 1, zv := [((.bool false), .pr)], leafs := [.bool], deep := false }
def T5 : TyD := { under := (.int .u8), size := 1, bytes := 1, zv := [((.int .u8 (0 : Int)), .pr)], leafs := [(.int .u8)], deep := false }
def T6 : TyD := { under := (.int .u8), size := 1, bytes := 1, zv := [((.int .u8 (0 : Int)), .pr)], leafs := [(.int .u8)], deep := false }
def T7 : TyD := { under := (.struct [(0, 2), (1, 3), (2, 4), (3, 6)]), size := 4, bytes := 24, zv := [((.int .i64 (0 : Int)), .pr), ((.int .i64 (0 : Int)), .pr), ((.bool false), .pr), ((.int .u8 (0 : Int)), .pr)], leafs := [(.int .i64), (.int .i64), .bool, (.int .u8)], deep := false }
def T8 : TyD := { under := (.struct [(0, 2), (1, 3), (2, 4), (3, 6)]), size := 4, bytes := 24, zv := [((.int .i64 (0 : Int)), .pr), ((.int .i64 (0 : Int)), .pr), ((.bool false), .pr), ((.int .u8 (0 : Int)), .pr)], leafs := [(.int .i64), (.int .i64), .bool, (.int .u8)], deep := false }
def T9 : TyD := { under := .string, size := 1, bytes := 16, zv := [((.str ⟨#[]⟩), .pr)], leafs := [.string], deep := false }
def T22 : TyD := { under := (.slice 3), size := 1, bytes := 24, zv := [((.sl 1 []), (.own true))], leafs := [(.slice 3)], deep := false }
def T24 : TyD := { under := (.slice 38), size := 1, bytes := 24, zv := [((.sl 7 []), (.own true))], leafs := [(.slice 38)], deep := false }
def T26 : TyD := { under := (.slice 133), size := 1, bytes := 24, zv := [((.sl 3 []), (.own true))], leafs := [(.slice 133)], deep := false }
def T27 : TyD := { under := (.slice 86), size := 1, bytes := 24, zv := [((.sl 7 []), (.own true))], leafs := [(.slice 86)], deep := true }
def T29 : TyD := { under := (.struct [(0, 9), (1, 3), (2, 3), (3, 26), (4, 26), (5, 26), (6, 27), (7, 3)]), size := 8, bytes := 136, zv := [((.str ⟨#[]⟩), .pr), ((.int .i64 (0 : Int)), .pr), ((.int .i64 (0 : Int)), .pr), ((.sl 3 []), (.own true)), ((.sl 3 []), (.own true)), ((.sl 3 []), (.own true)), ((.sl 7 []), (.own true)), ((.int .i64 (0 : Int)), .pr)], leafs := [.string, (.int .i64), (.int .i64), (.slice 133), (.slice 133), (.slice 133), (.slice 86), (.int .i64)], deep := true }
def T38 : TyD := { under := (.struct [(0, 3), (1, 3), (2, 3), (3, 3), (4, 3), (5, 3), (6, 9)]), size := 7, bytes := 64, zv := [((.int .i64 (0 : Int)), .pr), ((.int .i64 (0 : Int)), .pr), ((.int .i64 (0 : Int)), .pr), ((.int .i64 (0 : Int)), .pr), ((.int .i64 (0 : Int)), .pr), ((.int .i64 (0 : Int)), .pr), ((.str ⟨#[]⟩), .pr)], leafs := [(.int .i64), (.int .i64), (.int .i64), (.int .i64), (.int .i64), (.int .i64), .string], deep := false, cmp := true }
def T48 : TyD := { under := .pointer, size := 1, bytes := 8, zv := [(.nilp, .pr)], leafs := [.pointer], deep := false }
def T50 : TyD := { under := (.struct [(0, 22), (1, 3)]), size := 2, bytes := 32, zv := [((.sl 1 []), (.own true)), ((.int .i64 (0 : Int)), .pr)], leafs := [(.slice 3), (.int .i64)], deep := false }
def T57 : TyD := { under := (.slice 22), size := 1, bytes := 24, zv := [((.sl 1 []), (.own true))], leafs := [(.slice 22)], deep := false }
def T59 : TyD := { under := (.slice 62), size := 1, bytes := 24, zv := [((.sl 2 []), (.own true))], leafs := [(.slice 62)], deep := false }
def T60 : TyD := { under := (.slice 63), size := 1, bytes := 24, zv := [((.sl 2 []), (.own true))], leafs := [(.slice 63)], deep := false }
def T62 : TyD := { under := (.struct [(0, 3), (1, 3)]), size := 2, bytes := 16, zv := [((.int .i64 (0 : Int)), .pr), ((.int .i64 (0 : Int)), .pr)], leafs := [(.int .i64), (.int .i64)], deep := false }
def T63 : TyD := { under := (.struct [(0, 3), (1, 3)]), size := 2, bytes := 16, zv := [((.int .i64 (0 : Int)), .pr), ((.int .i64 (0 : Int)), .pr)], leafs := [(.int .i64), (.int .i64)], deep := false }
def T70 : TyD := { under := (.slice 2), size := 1, bytes := 24, zv := [((.sl 1 []), (.own true))], leafs := [(.slice 2)], deep := false }
def T71 : TyD := { under := (.slice 9), size := 1, bytes := 24, zv := [((.sl 1 []), (.own true))], leafs := [(.slice 9)], deep := false }
def T72 : TyD := { under := (.slice 82), size := 1, bytes := 24, zv := [((.sl 6 []), (.own true))], leafs := [(.slice 82)], deep := false }
def T73 : TyD := { under := (.slice 158), size := 1, bytes := 24, zv := [((.sl 1 []), (.own true))], leafs := [(.slice 158)], deep := false }
def T75 : TyD := { under := (.struct [(0, 9), (1, 3), (2, 3), (3, 70), (4, 71), (5, 71), (6, 24), (7, 72), (8, 73)]), size := 9, bytes := 176, zv := [((.str ⟨#[]⟩), .pr), ((.int .i64 (0 : Int)), .pr), ((.int .i64 (0 : Int)), .pr), ((.sl 1 []), (.own true)), ((.sl 1 []), (.own true)), ((.sl 1 []), (.own true)), ((.sl 7 []), (.own true)), ((.sl 6 []), (.own true)), ((.sl 1 []), (.own true))], leafs := [.string, (.int .i64), (.int .i64), (.slice 2), (.slice 9), (.slice 9), (.slice 38), (.slice 82), (.slice 158)], deep := false }
def T77 : TyD := { under := (.slice 79), size := 1, bytes := 24, zv := [((.sl 1 []), (.own true))], leafs := [(.slice 79)], deep := false }
def T79 : TyD := { under := (.slice 4), size := 1, bytes := 24, zv := [((.sl 1 []), (.own true))], leafs := [(.slice 4)], deep := false }
def T82 : TyD := { under := (.struct [(0, 3), (1, 3), (2, 3), (3, 3), (4, 3), (5, 9)]), size := 6, bytes := 56, zv := [((.int .i64 (0 : Int)), .pr), ((.int .i64 (0 : Int)), .pr), ((.int .i64 (0 : Int)), .pr), ((.int .i64 (0 : Int)), .pr), ((.int .i64 (0 : Int)), .pr), ((.str ⟨#[]⟩), .pr)], leafs := [(.int .i64), (.int .i64), (.int .i64), (.int .i64), (.int .i64), .string], deep := false }
def T83 : TyD := { under := (.slice 162), size := 1, bytes := 24, zv := [((.sl 8 []), (.own true))], leafs := [(.slice 162)], deep := true }
def T84 : TyD := { under := (.slice 139), size := 1, bytes := 24, zv := [((.sl 5 []), (.own true))], leafs := [(.slice 139)], deep := true }
def T86 : TyD := { under := (.struct [(0, 3), (1, 9), (2, 83), (3, 83), (4, 84), (5, 27), (6, 3)]), size := 7, bytes := 128, zv := [((.int .i64 (0 : Int)), .pr), ((.str ⟨#[]⟩), .pr), ((.sl 8 []), (.own true)), ((.sl 8 []), (.own true)), ((.sl 5 []), (.own true)), ((.sl 7 []), (.own true)), ((.int .i64 (0 : Int)), .pr)], leafs := [(.int .i64), .string, (.slice 162), (.slice 162), (.slice 139), (.slice 86), (.int .i64)], deep := true }
def T95 : TyD := { under := .pointer, size := 1, bytes := 8, zv := [(.nilp, .pr)], leafs := [.pointer], deep := false }
def T97 : TyD := { under := (.struct [(0, 24), (1, 57), (2, 79), (3, 3)]), size := 4, bytes := 80, zv := [((.sl 7 []), (.own true)), ((.sl 1 []), (.own true)), ((.sl 1 []), (.own true)), ((.int .i64 (0 : Int)), .pr)], leafs := [(.slice 38), (.slice 22), (.slice 4), (.int .i64)], deep := false }
def T102 : TyD := { under := .pointer, size := 1, bytes := 8, zv := [(.nilp, .pr)], leafs := [.pointer], deep := false }
def T104 : TyD := { under := (.struct [(0, 24), (1, 57), (2, 22)]), size := 3, bytes := 72, zv := [((.sl 7 []), (.own true)), ((.sl 1 []), (.own true)), ((.sl 1 []), (.own true))], leafs := [(.slice 38), (.slice 22), (.slice 3)], deep := false }
def T109 : TyD := { under := .pointer, size := 1, bytes := 8, zv := [(.nilp, .pr)], leafs := [.pointer], deep := false }
def T111 : TyD := { under := (.struct [(0, 71), (1, 71), (2, 71), (3, 71)]), size := 4, bytes := 96, zv := [((.sl 1 []), (.own true)), ((.sl 1 []), (.own true)), ((.sl 1 []), (.own true)), ((.sl 1 []), (.own true))], leafs := [(.slice 9), (.slice 9), (.slice 9), (.slice 9)], deep := false }
def T113 : TyD := { under := (.struct [(0, 48), (1, 111), (5, 3), (6, 71)]), size := 7, bytes := 136, zv := [(.nilp, .pr), ((.sl 1 []), (.own true)), ((.sl 1 []), (.own true)), ((.sl 1 []), (.own true)), ((.sl 1 []), (.own true)), ((.int .i64 (0 : Int)), .pr), ((.sl 1 []), (.own true))], leafs := [.pointer, (.slice 9), (.slice 9), (.slice 9), (.slice 9), (.int .i64), (.slice 9)], deep := false }
def T115 : TyD := { under := (.array 4 3), size := 4, bytes := 32, zv := [((.int .i64 (0 : Int)), .pr), ((.int .i64 (0 : Int)), .pr), ((.int .i64 (0 : Int)), .pr), ((.int .i64 (0 : Int)), .pr)], leafs := [(.int .i64), (.int .i64), (.int .i64), (.int .i64)], deep := false }
def T124 : TyD := { under := (.int .u64), size := 1, bytes := 8, zv := [((.int .u64 (0 : Int)), .pr)], leafs := [(.int .u64)], deep := false }
def T125 : TyD := { under := .pointer, size := 1, bytes := 8, zv := [(.nilp, .pr)], leafs := [.pointer], deep := false }
def T127 : TyD := { under := (.struct [(0, 71), (1, 71), (2, 71), (3, 24)]), size := 4, bytes := 96, zv := [((.sl 1 []), (.own true)), ((.sl 1 []), (.own true)), ((.sl 1 []), (.own true)), ((.sl 7 []), (.own true))], leafs := [(.slice 9), (.slice 9), (.slice 9), (.slice 38)], deep := false }
def T130 : TyD := { under := (.struct [(0, 75), (9, 127)]), size := 13, bytes := 272, zv := [((.str ⟨#[]⟩), .pr), ((.int .i64 (0 : Int)), .pr), ((.int .i64 (0 : Int)), .pr), ((.sl 1 []), (.own true)), ((.sl 1 []), (.own true)), ((.sl 1 []), (.own true)), ((.sl 7 []), (.own true)), ((.sl 6 []), (.own true)), ((.sl 1 []), (.own true)), ((.sl 1 []), (.own true)), ((.sl 1 []), (.own true)), ((.sl 1 []), (.own true)), ((.sl 7 []), (.own true))], leafs := [.string, (.int .i64), (.int .i64), (.slice 2), (.slice 9), (.slice 9), (.slice 38), (.slice 82), (.slice 158), (.slice 9), (.slice 9), (.slice 9), (.slice 38)], deep := false }
def T133 : TyD := { under := (.struct [(0, 9), (1, 2), (2, 3)]), size := 3, bytes := 32, zv := [((.str ⟨#[]⟩), .pr), ((.int .i64 (0 : Int)), .pr), ((.int .i64 (0 : Int)), .pr)], leafs := [.string, (.int .i64), (.int .i64)], deep := false }
def T137 : TyD := { under := (.slice 141), size := 1, bytes := 24, zv := [((.sl 5 []), (.own true))], leafs := [(.slice 141)], deep := true }
def T139 : TyD := { under := (.struct [(0, 9), (1, 137), (2, 9), (3, 83), (4, 3)]), size := 5, bytes := 88, zv := [((.str ⟨#[]⟩), .pr), ((.sl 5 []), (.own true)), ((.str ⟨#[]⟩), .pr), ((.sl 8 []), (.own true)), ((.int .i64 (0 : Int)), .pr)], leafs := [.string, (.slice 141), .string, (.slice 162), (.int .i64)], deep := true }
def T141 : TyD := { under := (.struct [(0, 3), (1, 2), (2, 9), (3, 137), (4, 3)]), size := 5, bytes := 64, zv := [((.int .i64 (0 : Int)), .pr), ((.int .i64 (0 : Int)), .pr), ((.str ⟨#[]⟩), .pr), ((.sl 5 []), (.own true)), ((.int .i64 (0 : Int)), .pr)], leafs := [(.int .i64), (.int .i64), .string, (.slice 141), (.int .i64)], deep := true }
def T146 : TyD := { under := (.int .i64), size := 1, bytes := 8, zv := [((.int .i64 (0 : Int)), .pr)], leafs := [(.int .i64)], deep := false }
def T154 : TyD := { under := (.int .u32), size := 1, bytes := 4, zv := [((.int .u32 (0 : Int)), .pr)], leafs := [(.int .u32)], deep := false }
def T156 : TyD := { under := (.int .u64), size := 1, bytes := 8, zv := [((.int .u64 (0 : Int)), .pr)], leafs := [(.int .u64)], deep := false }
def T158 : TyD := { under := (.slice 178), size := 1, bytes := 24, zv := [((.sl 4 []), (.own true))], leafs := [(.slice 178)], deep := false }
def T162 : TyD := { under := (.struct [(0, 3), (1, 9), (2, 9), (3, 137), (4, 3), (5, 83), (6, 83), (7, 3)]), size := 8, bytes := 128, zv := [((.int .i64 (0 : Int)), .pr), ((.str ⟨#[]⟩), .pr), ((.str ⟨#[]⟩), .pr), ((.sl 5 []), (.own true)), ((.int .i64 (0 : Int)), .pr), ((.sl 8 []), (.own true)), ((.sl 8 []), (.own true)), ((.int .i64 (0 : Int)), .pr)], leafs := [(.int .i64), .string, .string, (.slice 141), (.int .i64), (.slice 162), (.slice 162), (.int .i64)], deep := true }
def T163 : TyD := { under := (.array 8 9), size := 8, bytes := 128, zv := [((.str ⟨#[]⟩), .pr), ((.str ⟨#[]⟩), .pr), ((.str ⟨#[]⟩), .pr), ((.str ⟨#[]⟩), .pr), ((.str ⟨#[]⟩), .pr), ((.str ⟨#[]⟩), .pr), ((.str ⟨#[]⟩), .pr), ((.str ⟨#[]⟩), .pr)], leafs := [.string, .string, .string, .string, .string, .string, .string, .string], deep := false }
def T164 : TyD := { under := (.array 6 3), size := 6, bytes := 48, zv := [((.int .i64 (0 : Int)), .pr), ((.int .i64 (0 : Int)), .pr), ((.int .i64 (0 : Int)), .pr), ((.int .i64 (0 : Int)), .pr), ((.int .i64 (0 : Int)), .pr), ((.int .i64 (0 : Int)), .pr)], leafs := [(.int .i64), (.int .i64), (.int .i64), (.int .i64), (.int .i64), (.int .i64)], deep := false }
def T165 : TyD := { under := (.int .u64), size := 1, bytes := 8, zv := [((.int .u64 (0 : Int)), .pr)], leafs := [(.int .u64)], deep := false }
def T169 : TyD := { under := .pointer, size := 1, bytes := 8, zv := [(.nilp, .pr)], leafs := [.pointer], deep := false }
def T173 : TyD := { under := .pointer, size := 1, bytes := 8, zv := [(.nilp, .pr)], leafs := [.pointer], deep := false }
def T178 : TyD := { under := (.struct [(0, 3), (1, 3), (2, 2), (3, 9)]), size := 4, bytes := 40, zv := [((.int .i64 (0 : Int)), .pr), ((.int .i64 (0 : Int)), .pr), ((.int .i64 (0 : Int)), .pr), ((.str ⟨#[]⟩), .pr)], leafs := [(.int .i64), (.int .i64), (.int .i64), .string], deep := false }
def S3 : Sig := { params := [.val .ro (.sl 1), .val .pr (.int .i64), .val .pr (.int .i64), .val .pr .str], boxes := [], outs := [(.pr, .bool)] }
def S4 : Sig := { params := [.val .ro (.sl 1)], boxes := [], outs := [(.pr, .bool)] }
def S5 : Sig := { params := [.val .ro (.sl 1), .val .ro (.sl 1), .val .ro (.sl 1)], boxes := [], outs := [(.pr, .bool)] }
def S6 : Sig := { params := [.val .ro (.sl 1), .val .ro (.sl 1), .val .pr (.int .i64)], boxes := [], outs := [(.pr, .bool)] }
def S7 : Sig := { params := [.val .ro (.sl 1), .val .pr (.int .i64), .val .pr (.int .i64)], boxes := [], outs := [(.pr, .bool)] }
def S8 : Sig := { params := [.val .ro (.sl 1), .val .ro (.sl 1), .val .ro (.sl 1), .val .ro (.sl 1)], boxes := [], outs := [(.pr, .bool)] }
def S9 : Sig := { params := [.val .ro (.sl 1), .val .ro (.sl 1), .val .ro (.sl 1), .val .ro (.sl 1)], boxes := [], outs := [(.pr, .bool)] }
def S10 : Sig := { params := [.val .ro (.sl 1), .val .ro (.sl 1), .val .ro (.sl 1)], boxes := [], outs := [(.pr, .bool)] }
def S11 : Sig := { params := [.val .ro (.sl 1), .val .pr (.int .i64), .val .pr (.int .i64)], boxes := [], outs := [(.pr, .bool)] }
def S12 : Sig := { params := [.val .ro (.sl 1), .val .ro (.sl 1)], boxes := [], outs := [(.pr, .bool)] }
def S13 : Sig := { params := [], boxes := [], outs := [(.pr, .bool)] }
def S14 : Sig := { params := [.val .ro (.agg [.str, (.int .i64), (.int .i64), (.sl 3), (.sl 3), (.sl 3), (.sl 7), (.int .i64)])], boxes := [], outs := [((.own true), (.sl 7))] }
def S15 : Sig := { params := [.val .ro (.sl 1)], boxes := [], outs := [(.ro, (.agg [.str, (.int .i64), (.int .i64), (.sl 3), (.sl 3), (.sl 3), (.sl 7), (.int .i64)]))] }
def S16 : Sig := { params := [.val .ro (.sl 7), .val .ro (.sl 7)], boxes := [], outs := [(.pr, .bool)] }
def S17 : Sig := { params := [.val .ro (.agg [.str, (.int .i64), (.int .i64), (.sl 3), (.sl 3), (.sl 3), (.sl 7), (.int .i64)])], boxes := [], outs := [((.own true), (.sl 7))] }
def S18 : Sig := { params := [.val .ro (.sl 7), .val .pr .str], boxes := [], outs := [(.pr, (.int .i64))] }
def S19 : Sig := { params := [.val .ro (.sl 7), .val .pr .str], boxes := [], outs := [(.pr, (.int .i64))] }
def S20 : Sig := { params := [.val .ro (.sl 7), .val .pr (.int .i64), .val .pr (.int .i64)], boxes := [], outs := [(.pr, .bool)] }
def S21 : Sig := { params := [.val .ro (.sl 7), .val .pr (.int .i64), .val .pr (.int .i64)], boxes := [], outs := [(.pr, .bool)] }
def S22 : Sig := { params := [.val .ro (.sl 1), .val .ro (.sl 1)], boxes := [], outs := [(.pr, .bool)] }
def S23 : Sig := { params := [.val .ro (.sl 7), .val .pr (.int .i64)], boxes := [], outs := [(.ro, (.sl 1))] }
def S24 : Sig := { params := [.val .ro (.sl 7), .val .pr (.int .i64)], boxes := [], outs := [(.ro, (.sl 1))] }
def S25 : Sig := { params := [.val .pr (.int .i64), .val .pr (.int .i64)], boxes := [], outs := [(.pr, (.int .i64))] }
def S26 : Sig := { params := [.val .ro (.sl 1)], boxes := [], outs := [(.ro, (.sl 1))] }
def S27 : Sig := { params := [.val .ro (.sl 7), .val .ro (.sl 1)], boxes := [], outs := [(.ro, (.sl 1)), (.pr, .bool)] }
def S28 : Sig := { params := [.val .ro (.sl 7), .val .ro (.sl 1)], boxes := [], outs := [(.ro, (.sl 1)), (.pr, .bool)] }
def S29 : Sig := { params := [.val .ro (.sl 7), .val .ro (.sl 1)], boxes := [], outs := [(.pr, .bool)] }
def S30 : Sig := { params := [.val .ro (.sl 7), .val .ro (.sl 1)], boxes := [], outs := [(.pr, .bool)] }
def S31 : Sig := { params := [.val .ro (.sl 7), .val .ro (.sl 1)], boxes := [], outs := [(.ro, (.sl 1))] }
def S32 : Sig := { params := [.val .ro (.sl 7), .val .ro (.sl 1)], boxes := [], outs := [(.ro, (.sl 1))] }
def S33 : Sig := { params := [.val .ro (.sl 7), .ptr 0 0, .val .pr (.int .i64)], boxes := [[.fix (.sl 1), .val .pr (.int .i64)]], outs := [(.ro, (.sl 1))] }
def S34 : Sig := { params := [.val .ro (.sl 1), .val .pr (.int .i64)], boxes := [], outs := [(.pr, .bool)] }
def S35 : Sig := { params := [.val .ro (.sl 1), .val .ro (.sl 1)], boxes := [], outs := [(.ro, (.sl 1))] }
def S36 : Sig := { params := [.val .ro (.sl 1), .val .ro (.sl 1)], boxes := [], outs := [(.ro, (.sl 1))] }
def S37 : Sig := { params := [], boxes := [], outs := [(.pr, .bool)] }
def S38 : Sig := { params := [.val .ro (.sl 1)], boxes := [], outs := [(.ro, (.sl 7))] }
def S39 : Sig := { params := [.val .ro (.sl 7), .val .pr (.int .i64), .val .pr (.int .i64)], boxes := [], outs := [(.pr, (.int .i64))] }
def S40 : Sig := { params := [.val .ro (.sl 7), .val .pr (.int .i64), .val .pr (.int .i64)], boxes := [], outs := [(.pr, (.int .i64))] }
def S41 : Sig := { params := [.val .ro (.sl 7), .ptr 0 0, .val .pr (.int .i64)], boxes := [[.fix (.sl 1), .val .pr (.int .i64)]], outs := [(.ro, (.sl 1))] }
def S42 : Sig := { params := [.val .ro (.sl 7), .val .ro (.sl 1), .val .ro (.sl 1), .val .ro (.sl 1)], boxes := [], outs := [(.ro, (.sl 1))] }
def S43 : Sig := { params := [.val .ro (.sl 7), .val .ro (.sl 2), .val .ro (.sl 1)], boxes := [], outs := [(.ro, (.sl 1))] }
def S44 : Sig := { params := [.val .ro (.sl 7), .val .ro (.sl 2), .val .ro (.sl 1)], boxes := [], outs := [(.ro, (.sl 1))] }
def S45 : Sig := { params := [.val .ro (.sl 7)], boxes := [], outs := [(.ro, (.sl 1))] }
def S46 : Sig := { params := [.val .ro (.sl 7)], boxes := [], outs := [(.ro, (.sl 1))] }
def S47 : Sig := { params := [.val .ro (.sl 7), .val .ro (.sl 1), .val .ro (.sl 1)], boxes := [], outs := [(.ro, (.sl 1))] }
def S48 : Sig := { params := [.val .ro (.sl 1), .val .ro (.sl 1)], boxes := [], outs := [(.pr, .bool)] }
def S49 : Sig := { params := [.val .ro (.sl 7), .val .ro (.sl 1), .val .ro (.sl 1), .val .ro (.sl 1)], boxes := [], outs := [(.ro, (.sl 1))] }
def S50 : Sig := { params := [.val .ro (.sl 7), .val .ro (.sl 1), .val .ro (.sl 1)], boxes := [], outs := [(.ro, (.sl 1))] }
def S51 : Sig := { params := [], boxes := [], outs := [(.pr, .bool)] }
def S52 : Sig := { params := [.val .ro (.sl 1)], boxes := [], outs := [(.ro, (.agg [.str, (.int .i64), (.int .i64), (.sl 1), (.sl 1), (.sl 1), (.sl 7), (.sl 6), (.sl 1)]))] }
def S53 : Sig := { params := [.val .ro (.sl 7), .val .ro (.sl 6)], boxes := [], outs := [(.ro, (.sl 1))] }
def S54 : Sig := { params := [.val .ro (.sl 7), .val .ro (.agg [(.int .i64), (.int .i64), (.int .i64), (.int .i64), (.int .i64), .str]), .val .ro (.agg [(.int .i64), (.int .i64), (.int .i64), (.int .i64), (.int .i64), .str])], boxes := [], outs := [(.pr, .bool)] }
def S55 : Sig := { params := [.val .ro (.sl 7), .val .ro (.agg [(.int .i64), (.int .i64), (.int .i64), (.int .i64), (.int .i64), .str]), .val .ro (.agg [(.int .i64), (.int .i64), (.int .i64), (.int .i64), (.int .i64), .str])], boxes := [], outs := [(.pr, .bool)] }
def S56 : Sig := { params := [.val .ro (.sl 7), .ptr 0 0, .val .pr (.int .i64)], boxes := [[.fix (.sl 1), .val .pr (.int .i64)]], outs := [(.ro, (.sl 1))] }
def S57 : Sig := { params := [.val .ro (.sl 1), .val .ro (.sl 1)], boxes := [], outs := [(.ro, (.sl 1))] }
def S58 : Sig := { params := [.val (.own true) (.sl 7), .val .ro (.sl 7), .val .pr (.int .i64)], boxes := [], outs := [((.own true), (.sl 7))] }
def S59 : Sig := { params := [.ptr 0 0, .val .pr .str, .val .pr (.int .i64)], boxes := [[.fix (.sl 1), .val .pr (.int .i64)]], outs := [(.ro, (.agg [.str, (.int .i64), (.int .i64), (.sl 3), (.sl 3), (.sl 3), (.sl 7), (.int .i64)]))] }
def S60 : Sig := { params := [.val (.own true) (.sl 7), .val .ro (.agg [(.int .i64), (.int .i64), (.int .i64), (.int .i64), (.int .i64), (.int .i64), .str]), .val .ro (.sl 7)], boxes := [], outs := [((.own true), (.sl 7))] }
def S62 : Sig := { params := [.val .ro (.agg [(.int .i64), (.int .i64), (.int .i64), (.int .i64), (.int .i64), (.int .i64), .str]), .ptr 0 0], boxes := [[.val .pr .str]], outs := [(.pr, .bool)] }
def S63 : Sig := { params := [.val .ro (.sl 7), .val .pr (.int .i64)], boxes := [], outs := [(.pr, .bool)] }
def S64 : Sig := { params := [.val .ro (.sl 7), .val .pr (.int .i64)], boxes := [], outs := [(.pr, .bool)] }
def S65 : Sig := { params := [.val .pr (.int .i64)], boxes := [], outs := [(.pr, .bool)] }
def S66 : Sig := { params := [.val .ro (.agg [(.int .i64), (.int .i64), (.int .i64), (.int .i64), (.int .i64), (.int .i64), .str])], boxes := [], outs := [(.pr, .bool)] }
def S67 : Sig := { params := [.val .ro (.sl 7), .val .pr (.int .i64)], boxes := [], outs := [(.ro, (.sl 1))] }
def S68 : Sig := { params := [.ptr 0 0, .val .pr (.int .i64)], boxes := [[.fix (.sl 1), .val .pr (.int .i64)]], outs := [(.pr, (.int .i64))] }
def S69 : Sig := { params := [.val .ro (.sl 7), .val .pr (.int .i64), .val .pr (.int .i64)], boxes := [], outs := [(.pr, .bool)] }
def S70 : Sig := { params := [.val .ro (.sl 7), .val .pr (.int .i64)], boxes := [], outs := [(.pr, .bool)] }
def S71 : Sig := { params := [.ptr 0 0, .val .pr (.int .i64)], boxes := [[.fix (.sl 7), .fix (.sl 1), .val (.own true) (.sl 1), .val .pr (.int .i64)]], outs := [] }
def S72 : Sig := { params := [.ptr 0 0, .val .pr (.int .i64)], boxes := [[.fix (.sl 7), .fix (.sl 1), .val (.own true) (.sl 1), .val .pr (.int .i64)]], outs := [(.ro, (.sl 1))] }
def S73 : Sig := { params := [.ptr 0 0, .val .pr (.int .i64), .val .pr (.int .i64)], boxes := [[.fix (.sl 7), .fix (.sl 1), .val (.own true) (.sl 1), .val .pr (.int .i64)]], outs := [] }
def S74 : Sig := { params := [.ptr 0 0], boxes := [[.fix (.sl 7), .fix (.sl 1), .val (.own true) (.sl 1), .val .pr (.int .i64)]], outs := [(.ro, (.sl 1))] }
def S75 : Sig := { params := [.ptr 0 0, .val .pr (.int .i64)], boxes := [[.fix (.sl 7), .fix (.sl 1), .val (.own true) (.sl 1)]], outs := [] }
def S76 : Sig := { params := [.ptr 0 0, .val .pr (.int .i64)], boxes := [[.fix (.sl 7), .fix (.sl 1), .val (.own true) (.sl 1)]], outs := [(.ro, (.sl 1))] }
def S77 : Sig := { params := [.ptr 0 0, .val .pr (.int .i64), .val .pr (.int .i64)], boxes := [[.fix (.sl 7), .fix (.sl 1), .val (.own true) (.sl 1)]], outs := [] }
def S78 : Sig := { params := [.val .ro (.agg [(.int .i64), (.int .i64), (.int .i64), (.int .i64), (.int .i64), (.int .i64), .str])], boxes := [], outs := [(.pr, .bool)] }
def S79 : Sig := { params := [.val .ro (.sl 1), .val .pr (.int .i64)], boxes := [], outs := [(.pr, .bool)] }
def S80 : Sig := { params := [.val .ro (.sl 1)], boxes := [], outs := [(.ro, (.sl 1))] }
def S82 : Sig := { params := [.val .pr (.int .i64), .ptr 0 0, .ptr 1 0], boxes := [[.fix (.sl 7)], [.val .pr (.int .i64)]], outs := [(.pr, .bool)] }
def S83 : Sig := { params := [.val .ro (.sl 1)], boxes := [], outs := [] }
def S84 : Sig := { params := [.val .ro (.sl 1)], boxes := [], outs := [(.ro, (.sl 1))] }
def S85 : Sig := { params := [.val .ro (.sl 1)], boxes := [], outs := [] }
def S86 : Sig := { params := [.val .ro (.agg [.str, (.int .i64), (.int .i64), (.sl 3), (.sl 3), (.sl 3), (.sl 7), (.int .i64)])], boxes := [], outs := [(.ro, (.agg [.str, (.int .i64), (.int .i64), (.sl 1), (.sl 1), (.sl 1), (.sl 7), (.sl 6), (.sl 1)]))] }
def S87 : Sig := { params := [.val .ro (.agg [(.int .i64), .str, (.sl 8), (.sl 8), (.sl 5), (.sl 7), (.int .i64)])], boxes := [], outs := [(.pr, (.int .i64))] }
def S88 : Sig := { params := [.val .pr .str, .val .pr (.int .i64)], boxes := [], outs := [(.ro, (.sl 1))] }
def S89 : Sig := { params := [.val .ro (.sl 1), .ptr 0 0], boxes := [[.fix (.sl 1), .val .pr (.int .i64)]], outs := [(.ro, (.sl 3))] }
def S90 : Sig := { params := [.val .ro (.sl 1)], boxes := [], outs := [(.ro, (.sl 3))] }
def S91 : Sig := { params := [.ptr 0 0, .val .pr (.int .i64), .val .pr .bool], boxes := [[.ptr 1 0, .fix (.sl 1), .fix (.sl 1), .fix (.sl 1), .fix (.sl 1), .val .pr (.int .i64), .val (.own true) (.sl 1)], [.fix (.sl 1), .val .pr (.int .i64)]], outs := [((.own true), (.agg [(.int .i64), .str, (.sl 8), (.sl 8), (.sl 5), (.sl 7), (.int .i64)]))] }
def S92 : Sig := { params := [.ptr 0 0, .val (.own true) (.agg [(.int .i64), .str, (.sl 8), (.sl 8), (.sl 5), (.sl 7), (.int .i64)])], boxes := [[.ptr 1 0, .fix (.sl 1), .fix (.sl 1), .fix (.sl 1), .fix (.sl 1), .val .pr (.int .i64), .fix (.sl 1)], [.fix (.sl 1), .val .pr (.int .i64)]], outs := [((.own true), (.agg [(.int .i64), .str, (.sl 8), (.sl 8), (.sl 5), (.sl 7), (.int .i64)]))] }
def S93 : Sig := { params := [.val .ro (.agg [(.int .i64), .str, (.sl 8), (.sl 8), (.sl 5), (.sl 7), (.int .i64)])], boxes := [], outs := [(.pr, (.int .i64))] }
def S94 : Sig := { params := [.ptr 0 0], boxes := [[.fix (.sl 7), .fix (.sl 1), .val (.own true) (.sl 1), .val .pr (.int .i64)]], outs := [(.pr, .bool)] }
def S95 : Sig := { params := [.ptr 0 0, .val .pr (.int .i64)], boxes := [[.fix (.sl 7), .fix (.sl 1), .val (.own true) (.sl 1), .val .pr (.int .i64)]], outs := [] }
def S96 : Sig := { params := [.val .ro (.sl 7), .val .pr (.int .i64)], boxes := [], outs := [(.ro, (.sl 1))] }
def S97 : Sig := { params := [.ptr 0 0, .val .pr (.int .i64)], boxes := [[.fix (.sl 7), .fix (.sl 1), .val (.own true) (.sl 1)]], outs := [] }
def S98 : Sig := { params := [.val .ro (.sl 1), .val .pr (.int .i64)], boxes := [], outs := [(.pr, (.int .i64))] }
def S100 : Sig := { params := [.val .ro (.sl 1), .val .pr (.int .i64), .val .pr (.int .i64), .val .pr (.int .i64)], boxes := [], outs := [] }
def S101 : Sig := { params := [.val .pr (.int .u64)], boxes := [], outs := [(.pr, (.int .i64))] }
def S102 : Sig := { params := [.val .ro (.agg [.str, (.int .i64), (.int .i64), (.sl 3), (.sl 3), (.sl 3), (.sl 7), (.int .i64)])], boxes := [], outs := [(.ro, (.agg [(.sl 1), (.sl 1), (.sl 1), (.sl 7)]))] }
def S103 : Sig := { params := [.val .ro (.sl 3)], boxes := [], outs := [(.ro, (.sl 1))] }
def S104 : Sig := { params := [.ptr 0 0, .val .ro (.sl 7)], boxes := [[.val .pr .str, .val .pr (.int .i64), .val .pr (.int .i64), .fix (.sl 1), .fix (.sl 1), .fix (.sl 1), .val (.own true) (.sl 7), .val (.own true) (.sl 6), .val (.own true) (.sl 1), .fix (.sl 1), .fix (.sl 1), .fix (.sl 1), .fix (.sl 7)]], outs := [] }
def S105 : Sig := { params := [.val .pr (.int .i64)], boxes := [], outs := [(.pr, .str)] }
def S106 : Sig := { params := [.ptr 0 0, .val .ro (.agg [(.sl 1), (.sl 1), (.sl 1), (.sl 1)]), .val .pr (.int .i64)], boxes := [[.fix (.sl 1), .val .pr (.int .i64)]], outs := [((.own true), (.sl 8))] }
def S107 : Sig := { params := [.val .pr (.int .i64)], boxes := [], outs := [(.pr, .str)] }
def S108 : Sig := { params := [.ptr 0 0, .val .ro (.agg [(.sl 1), (.sl 1), (.sl 1), (.sl 1)]), .val .pr (.int .i64)], boxes := [[.fix (.sl 1), .val .pr (.int .i64)]], outs := [((.own true), (.agg [(.int .i64), (.int .i64), .str, (.sl 5), (.int .i64)]))] }
def S109 : Sig := { params := [.ptr 0 0, .val .ro (.sl 1), .val .pr .str], boxes := [[.fix (.sl 1), .val .pr (.int .i64)]], outs := [(.pr, .str)] }
def S110 : Sig := { params := [.ptr 0 0, .val .pr (.int .i64)], boxes := [[.fix (.sl 7), .fix (.sl 1), .val (.own true) (.sl 1), .val .pr (.int .i64)]], outs := [(.pr, .bool)] }
def S112 : Sig := { params := [.val .pr (.int .i64), .ptr 0 0], boxes := [[.fix (.sl 7)]], outs := [(.pr, .bool)] }
def S113 : Sig := { params := [.ptr 0 0, .val .pr (.int .i64)], boxes := [[.fix (.sl 7), .fix (.sl 1), .val (.own true) (.sl 1)]], outs := [(.pr, .bool)] }
def S114 : Sig := { params := [.val .ro (.sl 1), .val .pr (.int .i64), .val .pr (.int .i64)], boxes := [], outs := [] }
def S115 : Sig := { params := [.val .ro (.sl 1), .val .pr (.int .i64), .val .pr (.int .i64)], boxes := [], outs := [] }
def S116 : Sig := { params := [.val .ro (.sl 1), .val .pr (.int .i64), .val .pr (.int .i64)], boxes := [], outs := [] }
def S117 : Sig := { params := [.val .ro (.sl 1), .val .pr (.int .i64), .val .pr (.int .i64)], boxes := [], outs := [(.pr, (.int .i64)), (.pr, (.int .i64))] }
def S118 : Sig := { params := [.val .ro (.sl 1), .val .pr (.int .i64), .val .pr (.int .i64)], boxes := [], outs := [] }
def S119 : Sig := { params := [.val .ro (.sl 1), .val .pr (.int .i64), .val .pr (.int .i64)], boxes := [], outs := [(.pr, .bool)] }
def S120 : Sig := { params := [.val .pr (.int .i64), .val .pr (.int .i64)], boxes := [], outs := [(.pr, .bool)] }
def S121 : Sig := { params := [.val .ro (.sl 1), .val .pr (.int .i64), .val .pr (.int .i64), .val .pr (.int .i64)], boxes := [], outs := [(.pr, (.int .i64))] }
def S122 : Sig := { params := [.val .ro (.sl 1), .val .pr (.int .i64), .val .pr (.int .i64), .val .pr (.int .i64)], boxes := [], outs := [(.pr, (.int .i64)), (.pr, .bool)] }
def S123 : Sig := { params := [.val .pr (.int .u32)], boxes := [], outs := [(.pr, (.int .i64))] }
def S124 : Sig := { params := [.val .pr (.int .u64)], boxes := [], outs := [(.pr, (.int .i64))] }
def S125 : Sig := { params := [.ptr 0 0, .val .ro (.sl 8)], boxes := [[.val .pr .str, .val .pr (.int .i64), .val .pr (.int .i64), .fix (.sl 1), .fix (.sl 1), .fix (.sl 1), .fix (.sl 7), .fix (.sl 6), .val (.own true) (.sl 1), .fix (.sl 1), .fix (.sl 1), .fix (.sl 1), .fix (.sl 7)]], outs := [(.pr, (.int .i64))] }
def S126 : Sig := { params := [.val .ro (.agg [(.int .i64), (.int .i64), .str, (.sl 5), (.int .i64)]), .val .ro (.agg [(.sl 1), (.sl 1), (.sl 1), (.sl 7)])], boxes := [], outs := [((.own true), (.sl 4))] }
def S127 : Sig := { params := [.val .pr (.int .i64)], boxes := [], outs := [(.pr, .str)] }
def S128 : Sig := { params := [.val .ro (.sl 1), .val .pr (.int .i64), .val .pr (.int .i64), .val .pr (.int .i64)], boxes := [], outs := [] }
def S129 : Sig := { params := [.val .pr (.int .i64)], boxes := [], outs := [(.pr, (.int .u64))] }
def S130 : Sig := { params := [.ptr 0 0], boxes := [[.val .pr (.int .u64)]], outs := [(.pr, (.int .u64))] }
def S131 : Sig := { params := [.val .ro (.sl 1), .val .pr (.int .i64), .ptr 0 0], boxes := [[.val .pr (.int .i64)]], outs := [(.pr, (.int .i64))] }
def S132 : Sig := { params := [.val .ro (.sl 1), .val .pr (.int .i64), .val .pr (.int .i64), .val .pr (.int .i64), .ptr 0 0], boxes := [[.val .pr (.int .i64)]], outs := [(.pr, (.int .i64))] }
def S133 : Sig := { params := [.val .pr (.int .i64)], boxes := [], outs := [(.pr, .bool)] }
def S134 : Sig := { params := [.val .ro (.sl 8), .val .ro (.agg [(.sl 1), (.sl 1), (.sl 1), (.sl 7)])], boxes := [], outs := [((.own true), (.sl 4))] }
def S135 : Sig := { params := [.val (.own true) (.sl 4), .val .ro (.agg [(.int .i64), (.int .i64), .str, (.sl 5), (.int .i64)]), .val .ro (.agg [(.sl 1), (.sl 1), (.sl 1), (.sl 7)])], boxes := [], outs := [((.own true), (.sl 4))] }
def S136 : Sig := { params := [.val .ro (.sl 1), .val .pr (.int .i64), .val .pr (.int .i64), .ptr 0 0], boxes := [[.val .pr (.int .i64)]], outs := [(.pr, (.int .i64)), (.pr, (.int .i64))] }
def S137 : Sig := { params := [.val (.own true) (.sl 4), .val .ro (.sl 8), .val .ro (.agg [(.sl 1), (.sl 1), (.sl 1), (.sl 7)])], boxes := [], outs := [((.own true), (.sl 4))] }
def S138 : Sig := { params := [.val .ro (.sl 1), .val .pr .str], boxes := [], outs := [(.pr, (.int .i64))] }
def S139 : Sig := { params := [.val .pr (.int .i64)], boxes := [], outs := [(.pr, (.int .i64))] }
def S140 : Sig := { params := [.val (.own true) (.sl 4), .val .ro (.agg [(.int .i64), (.int .i64), .str, (.sl 5), (.int .i64)]), .val .ro (.agg [(.sl 1), (.sl 1), (.sl 1), (.sl 7)])], boxes := [], outs := [((.own true), (.sl 4))] }
def S141 : Sig := { params := [.val (.own true) (.sl 4), .val .ro (.agg [(.int .i64), (.int .i64), .str, (.sl 5), (.int .i64)]), .val .ro (.agg [(.sl 1), (.sl 1), (.sl 1), (.sl 7)])], boxes := [], outs := [((.own true), (.sl 4))] }
def S142 : Sig := { params := [.val (.own true) (.sl 4), .val .ro (.agg [(.int .i64), .str, .str, (.sl 5), (.int .i64), (.sl 8), (.sl 8), (.int .i64)]), .val .ro (.agg [(.sl 1), (.sl 1), (.sl 1), (.sl 7)])], boxes := [], outs := [((.own true), (.sl 4))] }
def S143 : Sig := { params := [.val (.own true) (.sl 4), .val .ro (.sl 5), .val .ro (.agg [(.sl 1), (.sl 1), (.sl 1), (.sl 7)])], boxes := [], outs := [((.own true), (.sl 4))] }
def S65597 : Sig := { params := [.val .ro (.sl 7), .clo 62 [(0, 0)]], boxes := [[.val .pr .str]], outs := [(.pr, (.int .i64))] }
def S65617 : Sig := { params := [.val .ro (.sl 1), .clo 82 [(0, 0), (1, 0)]], boxes := [[.fix (.sl 7)], [.val .pr (.int .i64)]], outs := [(.pr, .bool)] }
def S65635 : Sig := { params := [.val .ro (.sl 1), .clo 82 [(0, 0), (1, 0)]], boxes := [[.fix (.sl 7)], [.val .pr (.int .i64)]], outs := [(.pr, (.int .i64))] }
def S65647 : Sig := { params := [.val .ro (.sl 1), .clo 112 [(0, 0)]], boxes := [[.fix (.sl 7)]], outs := [(.ro, (.sl 1))] }
def S131171 : Sig := { params := [.val .ro (.sl 1), .clo 112 [(0, 0)]], boxes := [[.fix (.sl 7)]], outs := [(.pr, (.int .i64))] }
abbrev ORC (R : Type) := FuncId → List V → (List V → Option R) → Option R
def TAB : Tab := { tys := [(2, T2), (3, T3), (4, T4), (5, T5), (6, T6), (7, T7), (8, T8), (9, T9), (22, T22), (24, T24), (26, T26), (27, T27), (29, T29), (38, T38), (48, T48), (50, T50), (57, T57), (59, T59), (60, T60), (62, T62), (63, T63), (70, T70), (71, T71), (72, T72), (73, T73), (75, T75), (77, T77), (79, T79), (82, T82), (83, T83), (84, T84), (86, T86), (95, T95), (97, T97), (102, T102), (104, T104), (109, T109), (111, T111), (113, T113), (115, T115), (124, T124), (125, T125), (127, T127), (130, T130), (133, T133), (137, T137), (139, T139), (141, T141), (146, T146), (154, T154), (156, T156), (158, T158), (162, T162), (163, T163), (164, T164), (165, T165), (169, T169), (173, T173), (178, T178)], sigs := [(3, S3), (4, S4), (5, S5), (6, S6), (7, S7), (8, S8), (9, S9), (10, S10), (11, S11), (12, S12), (13, S13), (14, S14), (15, S15), (16, S16), (17, S17), (18, S18), (19, S19), (20, S20), (21, S21), (22, S22), (23, S23), (24, S24), (25, S25), (26, S26), (27, S27), (28, S28), (29, S29), (30, S30), (31, S31), (32, S32), (33, S33), (34, S34), (35, S35), (36, S36), (37, S37), (38, S38), (39, S39), (40, S40), (41, S41), (42, S42), (43, S43), (44, S44), (45, S45), (46, S46), (47, S47), (48, S48), (49, S49), (50, S50), (51, S51), (52, S52), (53, S53), (54, S54), (55, S55), (56, S56), (57, S57), (58, S58), (59, S59), (60, S60), (62, S62), (63, S63), (64, S64), (65, S65), (66, S66), (67, S67), (68, S68), (69, S69), (70, S70), (71, S71), (72, S72), (73, S73), (74, S74), (75, S75), (76, S76), (77, S77), (78, S78), (79, S79), (80, S80), (82, S82), (83, S83), (84, S84), (85, S85), (86, S86), (87, S87), (88, S88), (89, S89), (90, S90), (91, S91), (92, S92), (93, S93), (94, S94), (95, S95), (96, S96), (97, S97), (98, S98), (100, S100), (101, S101), (102, S102), (103, S103), (104, S104), (105, S105), (106, S106), (107, S107), (108, S108), (109, S109), (110, S110), (112, S112), (113, S113), (114, S114), (115, S115), (116, S116), (117, S117), (118, S118), (119, S119), (120, S120), (121, S121), (122, S122), (123, S123), (124, S124), (125, S125), (126, S126), (127, S127), (128, S128), (129, S129), (130, S130), (131, S131), (132, S132), (133, S133), (134, S134), (135, S135), (136, S136), (137, S137), (138, S138), (139, S139), (140, S140), (141, S141), (142, S142), (143, S143), (65597, S65597), (65617, S65617), (65635, S65635), (65647, S65647), (131171, S131171)], takes := [(14, 0, 1), (14, 3, 1), (17, 0, 1), (17, 1, 4), (58, 0, 0), (58, 10, 1), (60, 0, 1), (60, 12, 1), (106, 0, 1), (106, 21, 1), (126, 0, 2), (126, 1, 3), (134, 0, 1), (134, 1, 3), (135, 0, 2), (135, 3, 6), (135, 5, 9), (135, 7, 4), (135, 9, 9), (135, 12, 13), (135, 14, 4), (135, 16, 4), (135, 17, 19), (137, 0, 1), (137, 5, 1), (140, 0, 2), (140, 10, 1), (141, 0, 2), (141, 11, 1), (142, 0, 2), (142, 3, 13), (142, 5, 10), (142, 7, 15), (142, 9, 13), (142, 11, 9), (142, 17, 1), (142, 27, 1), (142, 29, 1), (143, 0, 1), (143, 2, 4), (143, 3, 6)], varis := [(18, 3, 2, 1), (50, 5, 2, 1), (96, 1, 4, 1), (65617, 1, 2, 1), (65647, 1, 2, 2)] }
theorem TAB_chk : TAB.chk Try.prog = true := by kernel_rfl
theorem MO : Try.prog.follows .mixedOrders = true := by kernel_rfl
end Go.Proofs.Ytblabbcmokldiaa.Vm
open Go Go.VM
set_option linter.unusedVariables false
set_option maxRecDepth 100000
set_option maxHeartbeats 4000000
namespace Go.Proofs.Ytblabbcmokldiaa.Vm
/-! ### cotillion/cotillionref37.Place: function 25 -/
def L25 {R : Type} (_ : ORC R) (_ : Nat) : Nat → St → (Ex → St → Option R) → Option R := fun _ _ _ => none
def f25 {R : Type} (G : ORC R) (k : Nat) (ai1 ai2 : Int) (K : List V → Option R) : Option R :=
  (bif (!(ai2 == 0)) then (bif (decide ((Int.tmod ai1 ai2) < 0)) then (K [(.int .i64 (IntKind.i64.wrap ((Int.tmod ai1 ai2) + ai2)))]) else (K [(.int .i64 (Int.tmod ai1 ai2))])) else none)
theorem f25_is {R : Type} (G : ORC R) (k : Nat) (K : List V → Option R) (ai1 ai2 : Int) :
    callF (TAB.env 25) G (L25 G k) Try.f25 S25 [(.int .i64 ai1), (.int .i64 ai2)] K = f25 G k ai1 ai2 K := by kernel_rfl
theorem lo25 : loopsOf (bodyOf Try.f25) = [] := by kernel_rfl
theorem la25 {R : Type} (G : ORC R) (k : Nat) : LoopsAre (TAB.env 25) G (L25 G k) (bodyOf Try.f25) :=
  loopsAre_of (by rw [lo25]; intro p hp; cases hp)
def g25 {R : Type} (G : ORC R) (k : Nat) (args : List V) (K : List V → Option R) : Option R := match args with
  | [(.int .i64 ai1), (.int .i64 ai2)] => f25 G k ai1 ai2 K
  | _ => none
theorem s25 {R : Type} {G : ORC R} {k : Nat} (hG : Sound Try.prog TAB G) (args : List V) (K : List V → Option R) (r : R) (h : g25 G k args K = some r) : ∃ o, CallOK Try.prog TAB.env 25 args o ∧ K o = some r := by
  unfold g25 at h
  split at h
  · rw [← f25_is] at h
    exact callF_sound (f := 25) TAB_chk MO hG Try.func25 (sg := S25) (by kernel_rfl) (by kernel_rfl) (la25 G k) h
  · cases h
end Go.Proofs.Ytblabbcmokldiaa.Vm
open Go Go.VM
set_option linter.unusedVariables false
set_option maxRecDepth 100000
set_option maxHeartbeats 4000000
namespace Go.Proofs.Ytblabbcmokldiaa.Vm
/-! ### (*cotillion/cotillionref37.Row).Next: function 68 -/
def L68 {R : Type} (_ : ORC R) (_ : Nat) : Nat → St → (Ex → St → Option R) → Option R := fun _ _ _ => none
def f68 {R : Type} (G : ORC R) (k : Nat) (ai1 : Int) (bl2 : List V) (bi3 : Int) (K : List V → Option R) : Option R :=
  (bif (decide (bi3 ≥ ((List.length bl2 : Nat) : Int))) then (K [(.int .i64 0), (.int .i64 bi3)]) else (bif ((decide (0 ≤ (IntKind.i64.wrap ((IntKind.i64.wrap (bi3 + 1)) - 1)))) && (decide ((IntKind.i64.wrap ((IntKind.i64.wrap (bi3 + 1)) - 1)) < ((List.length bl2 : Nat) : Int)))) then (nthK bl2 (Int.toNat (IntKind.i64.wrap ((IntKind.i64.wrap (bi3 + 1)) - 1))) fun e4 => (aI .i64 e4 fun n5 => (G 25 [(.int .i64 n5), (.int .i64 ai1)] fun o6 => (uI .i64 o6 fun n8 r7 => (unNil r7 (K [(.int .i64 n8), (.int .i64 (IntKind.i64.wrap (bi3 + 1)))])))))) else none))
theorem f68_is {R : Type} (G : ORC R) (k : Nat) (K : List V → Option R) (ai1 : Int) (bl2 : List V) (bi3 : Int) :
    callF (TAB.env 68) G (L68 G k) Try.f68 S68 [(.int .i64 ai1), (.sl 1 bl2), (.int .i64 bi3)] K = f68 G k ai1 bl2 bi3 K := by kernel_rfl
theorem lo68 : loopsOf (bodyOf Try.f68) = [] := by kernel_rfl
theorem la68 {R : Type} (G : ORC R) (k : Nat) : LoopsAre (TAB.env 68) G (L68 G k) (bodyOf Try.f68) :=
  loopsAre_of (by rw [lo68]; intro p hp; cases hp)
def g68 {R : Type} (G : ORC R) (k : Nat) (args : List V) (K : List V → Option R) : Option R := match args with
  | [(.int .i64 ai1), (.sl 1 bl2), (.int .i64 bi3)] => f68 G k ai1 bl2 bi3 K
  | _ => none
theorem s68 {R : Type} {G : ORC R} {k : Nat} (hG : Sound Try.prog TAB G) (args : List V) (K : List V → Option R) (r : R) (h : g68 G k args K = some r) : ∃ o, CallOK Try.prog TAB.env 68 args o ∧ K o = some r := by
  unfold g68 at h
  split at h
  · rw [← f68_is] at h
    exact callF_sound (f := 68) TAB_chk MO hG Try.func68 (sg := S68) (by kernel_rfl) (by kernel_rfl) (la68 G k) h
  · cases h
end Go.Proofs.Ytblabbcmokldiaa.Vm
open Go Go.VM
set_option linter.unusedVariables false
set_option maxRecDepth 100000
set_option maxHeartbeats 4000000
namespace Go.Proofs.Ytblabbcmokldiaa.Vm
/-! ### cotillion/cotillionref7.Dec: function 127 -/
def L127 {R : Type} (_ : ORC R) (_ : Nat) : Nat → St → (Ex → St → Option R) → Option R := fun _ _ _ => none
def f127 {R : Type} (G : ORC R) (k : Nat) (ai1 : Int) (K : List V → Option R) : Option R :=
  (bif (decide (ai1 ≤ (-10))) then (G 127 [(.int .i64 (IntKind.i64.wrap (Int.tdiv ai1 10)))] fun o2 => (uS o2 fun s4 r3 => (unNil r3 (bif (((decide (0 ≤ (IntKind.i64.wrap (0 - (Int.tmod ai1 10))))) && (decide ((IntKind.i64.wrap (0 - (Int.tmod ai1 10))) ≤ (IntKind.i64.wrap ((IntKind.i64.wrap (0 - (Int.tmod ai1 10))) + 1))))) && (decide ((IntKind.i64.wrap ((IntKind.i64.wrap (0 - (Int.tmod ai1 10))) + 1)) ≤ ((ByteArray.size ⟨#[48, 49, 50, 51, 52, 53, 54, 55, 56, 57]⟩ : Nat) : Int)))) then (bif (decide (ByteArray.size s4 + ByteArray.size (ByteArray.extract ⟨#[48, 49, 50, 51, 52, 53, 54, 55, 56, 57]⟩ (Int.toNat (IntKind.i64.wrap (0 - (Int.tmod ai1 10)))) (Int.toNat (IntKind.i64.wrap ((IntKind.i64.wrap (0 - (Int.tmod ai1 10))) + 1)))) ≤ 4294967296)) then (K [(.str (s4 ++ (ByteArray.extract ⟨#[48, 49, 50, 51, 52, 53, 54, 55, 56, 57]⟩ (Int.toNat (IntKind.i64.wrap (0 - (Int.tmod ai1 10)))) (Int.toNat (IntKind.i64.wrap ((IntKind.i64.wrap (0 - (Int.tmod ai1 10))) + 1))))))]) else none) else none)))) else (bif (decide (ai1 < 0)) then (bif (((decide (0 ≤ (IntKind.i64.wrap (0 - ai1)))) && (decide ((IntKind.i64.wrap (0 - ai1)) ≤ (IntKind.i64.wrap ((IntKind.i64.wrap (0 - ai1)) + 1))))) && (decide ((IntKind.i64.wrap ((IntKind.i64.wrap (0 - ai1)) + 1)) ≤ ((ByteArray.size ⟨#[48, 49, 50, 51, 52, 53, 54, 55, 56, 57]⟩ : Nat) : Int)))) then (bif (decide (ByteArray.size ⟨#[45]⟩ + ByteArray.size (ByteArray.extract ⟨#[48, 49, 50, 51, 52, 53, 54, 55, 56, 57]⟩ (Int.toNat (IntKind.i64.wrap (0 - ai1))) (Int.toNat (IntKind.i64.wrap ((IntKind.i64.wrap (0 - ai1)) + 1)))) ≤ 4294967296)) then (K [(.str (⟨#[45]⟩ ++ (ByteArray.extract ⟨#[48, 49, 50, 51, 52, 53, 54, 55, 56, 57]⟩ (Int.toNat (IntKind.i64.wrap (0 - ai1))) (Int.toNat (IntKind.i64.wrap ((IntKind.i64.wrap (0 - ai1)) + 1))))))]) else none) else none) else (bif (decide (ai1 < 10)) then (bif (((decide (0 ≤ ai1)) && (decide (ai1 ≤ (IntKind.i64.wrap (ai1 + 1))))) && (decide ((IntKind.i64.wrap (ai1 + 1)) ≤ ((ByteArray.size ⟨#[48, 49, 50, 51, 52, 53, 54, 55, 56, 57]⟩ : Nat) : Int)))) then (K [(.str (ByteArray.extract ⟨#[48, 49, 50, 51, 52, 53, 54, 55, 56, 57]⟩ (Int.toNat ai1) (Int.toNat (IntKind.i64.wrap (ai1 + 1)))))]) else none) else (G 127 [(.int .i64 (IntKind.i64.wrap (Int.tdiv ai1 10)))] fun o5 => (uS o5 fun s7 r6 => (unNil r6 (bif (((decide (0 ≤ (Int.tmod ai1 10))) && (decide ((Int.tmod ai1 10) ≤ (IntKind.i64.wrap ((Int.tmod ai1 10) + 1))))) && (decide ((IntKind.i64.wrap ((Int.tmod ai1 10) + 1)) ≤ ((ByteArray.size ⟨#[48, 49, 50, 51, 52, 53, 54, 55, 56, 57]⟩ : Nat) : Int)))) then (bif (decide (ByteArray.size s7 + ByteArray.size (ByteArray.extract ⟨#[48, 49, 50, 51, 52, 53, 54, 55, 56, 57]⟩ (Int.toNat (Int.tmod ai1 10)) (Int.toNat (IntKind.i64.wrap ((Int.tmod ai1 10) + 1)))) ≤ 4294967296)) then (K [(.str (s7 ++ (ByteArray.extract ⟨#[48, 49, 50, 51, 52, 53, 54, 55, 56, 57]⟩ (Int.toNat (Int.tmod ai1 10)) (Int.toNat (IntKind.i64.wrap ((Int.tmod ai1 10) + 1))))))]) else none) else none)))))))
theorem f127_is {R : Type} (G : ORC R) (k : Nat) (K : List V → Option R) (ai1 : Int) :
    callF (TAB.env 127) G (L127 G k) Try.f127 S127 [(.int .i64 ai1)] K = f127 G k ai1 K := by kernel_rfl
theorem lo127 : loopsOf (bodyOf Try.f127) = [] := by kernel_rfl
theorem la127 {R : Type} (G : ORC R) (k : Nat) : LoopsAre (TAB.env 127) G (L127 G k) (bodyOf Try.f127) :=
  loopsAre_of (by rw [lo127]; intro p hp; cases hp)
def g127 {R : Type} (G : ORC R) (k : Nat) (args : List V) (K : List V → Option R) : Option R := match args with
  | [(.int .i64 ai1)] => f127 G k ai1 K
  | _ => none
theorem s127 {R : Type} {G : ORC R} {k : Nat} (hG : Sound Try.prog TAB G) (args : List V) (K : List V → Option R) (r : R) (h : g127 G k args K = some r) : ∃ o, CallOK Try.prog TAB.env 127 args o ∧ K o = some r := by
  unfold g127 at h
  split at h
  · rw [← f127_is] at h
    exact callF_sound (f := 127) TAB_chk MO hG Try.func127 (sg := S127) (by kernel_rfl) (by kernel_rfl) (la127 G k) h
  · cases h
end Go.Proofs.Ytblabbcmokldiaa.Vm
open Go Go.VM
set_option linter.unusedVariables false
set_option maxRecDepth 100000
set_option maxHeartbeats 4000000
namespace Go.Proofs.Ytblabbcmokldiaa.Vm
/-! ### cotillion/cotillionref37.dec: function 105 -/
def L105 {R : Type} (_ : ORC R) (_ : Nat) : Nat → St → (Ex → St → Option R) → Option R := fun _ _ _ => none
def f105 {R : Type} (G : ORC R) (k : Nat) (ai1 : Int) (K : List V → Option R) : Option R :=
  (G 127 [(.int .i64 ai1)] fun o2 => (uS o2 fun s4 r3 => (unNil r3 (K [(.str s4)]))))
theorem f105_is {R : Type} (G : ORC R) (k : Nat) (K : List V → Option R) (ai1 : Int) :
    callF (TAB.env 105) G (L105 G k) Try.f105 S105 [(.int .i64 ai1)] K = f105 G k ai1 K := by kernel_rfl
theorem lo105 : loopsOf (bodyOf Try.f105) = [] := by kernel_rfl
theorem la105 {R : Type} (G : ORC R) (k : Nat) : LoopsAre (TAB.env 105) G (L105 G k) (bodyOf Try.f105) :=
  loopsAre_of (by rw [lo105]; intro p hp; cases hp)
def g105 {R : Type} (G : ORC R) (k : Nat) (args : List V) (K : List V → Option R) : Option R := match args with
  | [(.int .i64 ai1)] => f105 G k ai1 K
  | _ => none
theorem s105 {R : Type} {G : ORC R} {k : Nat} (hG : Sound Try.prog TAB G) (args : List V) (K : List V → Option R) (r : R) (h : g105 G k args K = some r) : ∃ o, CallOK Try.prog TAB.env 105 args o ∧ K o = some r := by
  unfold g105 at h
  split at h
  · rw [← f105_is] at h
    exact callF_sound (f := 105) TAB_chk MO hG Try.func105 (sg := S105) (by kernel_rfl) (by kernel_rfl) (la105 G k) h
  · cases h
end Go.Proofs.Ytblabbcmokldiaa.Vm
open Go Go.VM
set_option linter.unusedVariables false
set_option maxRecDepth 100000
set_option maxHeartbeats 4000000
namespace Go.Proofs.Ytblabbcmokldiaa.Vm
/-! ### cotillion/cotillionref37.names: function 88 -/
def P88_0h : Pat := { tmps := unds [.var .str .pr, .var (.int .i64) .pr, .undef, .undef, .undef, .var (.sl 1) (.own true), .var (.int .i64) .pr] 13 [], boxes := nons [] 20 [] }
def P88_0x : Pat := { tmps := unds [] 5 (unds [.var (.sl 1) (.own true)] 14 []), boxes := nons [] 20 [] }
def b88_0 {R : Type} (G : ORC R) (k : Nat) (X : ByteArray → Int → List V → Int → Option R) (Ko : List V → Option R) (xs3 : ByteArray) (xi4 : Int) (xl5 : List V) (xi6 : Int) : Option R :=
  (bif (decide (xi6 < xi4)) then (G 105 [(.int .i64 xi6)] fun o7 => (uS o7 fun s9 r8 => (unNil r8 (bif (decide (ByteArray.size xs3 + ByteArray.size s9 ≤ 4294967296)) then (bif (decide (List.length xl5 + 1 ≤ 1073741824)) then (X xs3 xi4 (xl5 ++ [(.str (xs3 ++ s9))]) (IntKind.i64.wrap (xi6 + 1))) else none) else none)))) else (Ko xl5))
def l88_0g {R : Type} (G : ORC R) (k : Nat) (Ko : List V → Option R) : Nat → ByteArray → Int → List V → Int → Option R
  | 0 => fun _ _ _ _ => none
  | j + 1 => b88_0 G k (l88_0g G k Ko j) Ko
def l88_0 {R : Type} (G : ORC R) (k : Nat) (xs3 : ByteArray) (xi4 : Int) (xl5 : List V) (xi6 : Int) (Ko : List V → Option R) : Option R := l88_0g G k Ko k xs3 xi4 xl5 xi6
def rd88_0 {R : Type} (G : ORC R) (k : Nat) (K : Ex → St → Option R) (j : Nat) (vs : List V) : Option R := match vs with
  | [(.str xs3), (.int .i64 xi4), (.sl 1 xl5), (.int .i64 xi6)] => l88_0g G k (fun yl11 => K .normal (P88_0x.inst [(.sl 1 yl11)])) j xs3 xi4 xl5 xi6
  | _ => none
def L88 {R : Type} (G : ORC R) (k : Nat) : Nat → St → (Ex → St → Option R) → Option R
  | 0, S, K => P88_0h.mat S fun vs => rd88_0 G k K k vs
  | _, _, _ => none
def f88 {R : Type} (G : ORC R) (k : Nat) (as1 : ByteArray) (ai2 : Int) (K : List V → Option R) : Option R :=
  (l88_0 G k as1 ai2 [] 0 (fun yl10 => (K [(.sl 1 yl10)])))
noncomputable def D88_0 : LoopD := { id := 0, body := loopAt 0 (bodyOf Try.f88), head := P88_0h, out := P88_0x, ret := default }
theorem l88_0_is {R : Type} (G : ORC R) (k : Nat) (X : List V → Option R) (K : Ex → St → Option R) (xs3 : ByteArray) (xi4 : Int) (xl5 : List V) (xi6 : Int) :
    roundOf (TAB.env 88) G (L88 G k) D88_0 X K [(.str xs3), (.int .i64 xi4), (.sl 1 xl5), (.int .i64 xi6)] = b88_0 G k (fun xs3 xi4 xl5 xi6 => X [(.str xs3), (.int .i64 xi4), (.sl 1 xl5), (.int .i64 xi6)]) (fun yl11 => K .normal (P88_0x.inst [(.sl 1 yl11)])) xs3 xi4 xl5 xi6 := by kernel_rfl
theorem f88_is {R : Type} (G : ORC R) (k : Nat) (K : List V → Option R) (as1 : ByteArray) (ai2 : Int) :
    callF (TAB.env 88) G (L88 G k) Try.f88 S88 [(.str as1), (.int .i64 ai2)] K = f88 G k as1 ai2 K := by kernel_rfl
theorem li88_0 {R : Type} (G : ORC R) (k : Nat) : LoopIs (TAB.env 88) G (L88 G k) 0 (loopAt 0 (bodyOf Try.f88)) :=
  ⟨D88_0, fun j vs K => rd88_0 G k K j vs, k, rfl, rfl, by kernel_rfl, by kernel_rfl, by kernel_rfl, (fun vs K => by unfold rd88_0; dsimp only; split <;> rfl),
    (fun j vs K r h => by
      unfold rd88_0 at h
      dsimp only at h
      split at h
      · rw [l88_0_is]; exact h
      · cases h), (fun S K r h => h)⟩
theorem lo88 : loopsOf (bodyOf Try.f88) = [(0, loopAt 0 (bodyOf Try.f88))] := by kernel_rfl
theorem la88 {R : Type} (G : ORC R) (k : Nat) : LoopsAre (TAB.env 88) G (L88 G k) (bodyOf Try.f88) :=
  loopsAre_of (by rw [lo88]; intro p hp; simp only [List.mem_cons, List.not_mem_nil, or_false] at hp; subst hp; exact li88_0 G k)
def g88 {R : Type} (G : ORC R) (k : Nat) (args : List V) (K : List V → Option R) : Option R := match args with
  | [(.str as1), (.int .i64 ai2)] => f88 G k as1 ai2 K
  | _ => none
theorem s88 {R : Type} {G : ORC R} {k : Nat} (hG : Sound Try.prog TAB G) (args : List V) (K : List V → Option R) (r : R) (h : g88 G k args K = some r) : ∃ o, CallOK Try.prog TAB.env 88 args o ∧ K o = some r := by
  unfold g88 at h
  split at h
  · rw [← f88_is] at h
    exact callF_sound (f := 88) TAB_chk MO hG Try.func88 (sg := S88) (by kernel_rfl) (by kernel_rfl) (la88 G k) h
  · cases h
end Go.Proofs.Ytblabbcmokldiaa.Vm
open Go Go.VM
set_option linter.unusedVariables false
set_option maxRecDepth 100000
set_option maxHeartbeats 4000000
namespace Go.Proofs.Ytblabbcmokldiaa.Vm
/-! ### cotillion/cotillionref37.named: function 89 -/
def P89_0h : Pat := { tmps := unds [.var (.sl 1) .ro, .stat (.one (.ptr 0 0) .pt), .undef, .undef, .undef, .var (.sl 3) (.own true), .var (.int .i64) .pr] 18 [], boxes := nons [some [.var (.sl 1) .ro true, .var (.int .i64) .pr false]] 25 [] }
def P89_0x : Pat := { tmps := unds [] 5 (unds [.var (.sl 3) (.own true)] 19 []), boxes := nons [some [.var (.sl 1) .ro true, .var (.int .i64) .pr false]] 25 [] }
def b89_0 {R : Type} (G : ORC R) (k : Nat) (X : List V → List V → Int → List V → Int → Option R) (Ko : List V → List V → Int → Option R) (xl4 xl5 : List V) (xi6 : Int) (xl7 : List V) (xi8 : Int) : Option R :=
  (bif (decide (xi6 < ((List.length xl4 : Nat) : Int))) then (bif ((decide (0 ≤ xi6)) && (decide (xi6 < ((List.length xl4 : Nat) : Int)))) then (nthK xl4 (Int.toNat xi6) fun e9 => (V.asStr e9 fun s10 => (G 68 [(.int .i64 9), (.sl 1 xl7), (.int .i64 xi8)] fun o11 => (uI .i64 o11 fun n13 r12 => (uI .i64 r12 fun n15 r14 => (unNil r14 (bif (decide (List.length xl5 + 1 ≤ 1073741824)) then (X xl4 (xl5 ++ [(.agg [(.str s10), (.int .i64 (IntKind.i64.wrap (n13 - 4))), (.int .i64 0)])]) (IntKind.i64.wrap (xi6 + 1)) xl7 n15) else none))))))) else none) else (Ko xl5 xl7 xi8))
def l89_0g {R : Type} (G : ORC R) (k : Nat) (Ko : List V → List V → Int → Option R) : Nat → List V → List V → Int → List V → Int → Option R
  | 0 => fun _ _ _ _ _ => none
  | j + 1 => b89_0 G k (l89_0g G k Ko j) Ko
def l89_0 {R : Type} (G : ORC R) (k : Nat) (xl4 xl5 : List V) (xi6 : Int) (xl7 : List V) (xi8 : Int) (Ko : List V → List V → Int → Option R) : Option R := l89_0g G k Ko k xl4 xl5 xi6 xl7 xi8
def rd89_0 {R : Type} (G : ORC R) (k : Nat) (K : Ex → St → Option R) (j : Nat) (vs : List V) : Option R := match vs with
  | [(.sl 1 xl4), (.sl 3 xl5), (.int .i64 xi6), (.sl 1 xl7), (.int .i64 xi8)] => l89_0g G k (fun yl19 yl20 yi21 => K .normal (P89_0x.inst [(.sl 3 yl19), (.sl 1 yl20), (.int .i64 yi21)])) j xl4 xl5 xi6 xl7 xi8
  | _ => none
def L89 {R : Type} (G : ORC R) (k : Nat) : Nat → St → (Ex → St → Option R) → Option R
  | 0, S, K => P89_0h.mat S fun vs => rd89_0 G k K k vs
  | _, _, _ => none
def f89 {R : Type} (G : ORC R) (k : Nat) (al1 bl2 : List V) (bi3 : Int) (K : List V → Option R) : Option R :=
  (l89_0 G k al1 [] 0 bl2 bi3 (fun yl16 yl17 yi18 => (K [(.sl 3 yl16), (.int .i64 yi18)])))
noncomputable def D89_0 : LoopD := { id := 0, body := loopAt 0 (bodyOf Try.f89), head := P89_0h, out := P89_0x, ret := default }
theorem l89_0_is {R : Type} (G : ORC R) (k : Nat) (X : List V → Option R) (K : Ex → St → Option R) (xl4 xl5 : List V) (xi6 : Int) (xl7 : List V) (xi8 : Int) :
    roundOf (TAB.env 89) G (L89 G k) D89_0 X K [(.sl 1 xl4), (.sl 3 xl5), (.int .i64 xi6), (.sl 1 xl7), (.int .i64 xi8)] = b89_0 G k (fun xl4 xl5 xi6 xl7 xi8 => X [(.sl 1 xl4), (.sl 3 xl5), (.int .i64 xi6), (.sl 1 xl7), (.int .i64 xi8)]) (fun yl19 yl20 yi21 => K .normal (P89_0x.inst [(.sl 3 yl19), (.sl 1 yl20), (.int .i64 yi21)])) xl4 xl5 xi6 xl7 xi8 := by kernel_rfl
theorem f89_is {R : Type} (G : ORC R) (k : Nat) (K : List V → Option R) (al1 bl2 : List V) (bi3 : Int) :
    callF (TAB.env 89) G (L89 G k) Try.f89 S89 [(.sl 1 al1), (.sl 1 bl2), (.int .i64 bi3)] K = f89 G k al1 bl2 bi3 K := by kernel_rfl
theorem li89_0 {R : Type} (G : ORC R) (k : Nat) : LoopIs (TAB.env 89) G (L89 G k) 0 (loopAt 0 (bodyOf Try.f89)) :=
  ⟨D89_0, fun j vs K => rd89_0 G k K j vs, k, rfl, rfl, by kernel_rfl, by kernel_rfl, by kernel_rfl, (fun vs K => by unfold rd89_0; dsimp only; split <;> rfl),
    (fun j vs K r h => by
      unfold rd89_0 at h
      dsimp only at h
      split at h
      · rw [l89_0_is]; exact h
      · cases h), (fun S K r h => h)⟩
theorem lo89 : loopsOf (bodyOf Try.f89) = [(0, loopAt 0 (bodyOf Try.f89))] := by kernel_rfl
theorem la89 {R : Type} (G : ORC R) (k : Nat) : LoopsAre (TAB.env 89) G (L89 G k) (bodyOf Try.f89) :=
  loopsAre_of (by rw [lo89]; intro p hp; simp only [List.mem_cons, List.not_mem_nil, or_false] at hp; subst hp; exact li89_0 G k)
def g89 {R : Type} (G : ORC R) (k : Nat) (args : List V) (K : List V → Option R) : Option R := match args with
  | [(.sl 1 al1), (.sl 1 bl2), (.int .i64 bi3)] => f89 G k al1 bl2 bi3 K
  | _ => none
theorem s89 {R : Type} {G : ORC R} {k : Nat} (hG : Sound Try.prog TAB G) (args : List V) (K : List V → Option R) (r : R) (h : g89 G k args K = some r) : ∃ o, CallOK Try.prog TAB.env 89 args o ∧ K o = some r := by
  unfold g89 at h
  split at h
  · rw [← f89_is] at h
    exact callF_sound (f := 89) TAB_chk MO hG Try.func89 (sg := S89) (by kernel_rfl) (by kernel_rfl) (la89 G k) h
  · cases h
end Go.Proofs.Ytblabbcmokldiaa.Vm
open Go Go.VM
set_option linter.unusedVariables false
set_option maxRecDepth 100000
set_option maxHeartbeats 4000000
namespace Go.Proofs.Ytblabbcmokldiaa.Vm
/-! ### cotillion/cotillionref37.plain: function 90 -/
def P90_0h : Pat := { tmps := unds [.var (.sl 1) .ro, .undef, .undef, .var (.sl 3) (.own true), .var (.int .i64) .pr] 15 [], boxes := nons [] 20 [] }
def P90_0x : Pat := { tmps := unds [.undef, .undef, .undef, .var (.sl 3) (.own true)] 16 [], boxes := nons [] 20 [] }
def b90_0 {R : Type} (G : ORC R) (k : Nat) (X : List V → List V → Int → Option R) (Ko : List V → Option R) (xl2 xl3 : List V) (xi4 : Int) : Option R :=
  (bif (decide (xi4 < ((List.length xl2 : Nat) : Int))) then (bif ((decide (0 ≤ xi4)) && (decide (xi4 < ((List.length xl2 : Nat) : Int)))) then (nthK xl2 (Int.toNat xi4) fun e5 => (V.asStr e5 fun s6 => (bif (decide (List.length xl3 + 1 ≤ 1073741824)) then (X xl2 (xl3 ++ [(.agg [(.str s6), (.int .i64 0), (.int .i64 0)])]) (IntKind.i64.wrap (xi4 + 1))) else none))) else none) else (Ko xl3))
def l90_0g {R : Type} (G : ORC R) (k : Nat) (Ko : List V → Option R) : Nat → List V → List V → Int → Option R
  | 0 => fun _ _ _ => none
  | j + 1 => b90_0 G k (l90_0g G k Ko j) Ko
def l90_0 {R : Type} (G : ORC R) (k : Nat) (xl2 xl3 : List V) (xi4 : Int) (Ko : List V → Option R) : Option R := l90_0g G k Ko k xl2 xl3 xi4
def rd90_0 {R : Type} (G : ORC R) (k : Nat) (K : Ex → St → Option R) (j : Nat) (vs : List V) : Option R := match vs with
  | [(.sl 1 xl2), (.sl 3 xl3), (.int .i64 xi4)] => l90_0g G k (fun yl8 => K .normal (P90_0x.inst [(.sl 3 yl8)])) j xl2 xl3 xi4
  | _ => none
def L90 {R : Type} (G : ORC R) (k : Nat) : Nat → St → (Ex → St → Option R) → Option R
  | 0, S, K => P90_0h.mat S fun vs => rd90_0 G k K k vs
  | _, _, _ => none
def f90 {R : Type} (G : ORC R) (k : Nat) (al1 : List V) (K : List V → Option R) : Option R :=
  (l90_0 G k al1 [] 0 (fun yl7 => (K [(.sl 3 yl7)])))
noncomputable def D90_0 : LoopD := { id := 0, body := loopAt 0 (bodyOf Try.f90), head := P90_0h, out := P90_0x, ret := default }
theorem l90_0_is {R : Type} (G : ORC R) (k : Nat) (X : List V → Option R) (K : Ex → St → Option R) (xl2 xl3 : List V) (xi4 : Int) :
    roundOf (TAB.env 90) G (L90 G k) D90_0 X K [(.sl 1 xl2), (.sl 3 xl3), (.int .i64 xi4)] = b90_0 G k (fun xl2 xl3 xi4 => X [(.sl 1 xl2), (.sl 3 xl3), (.int .i64 xi4)]) (fun yl8 => K .normal (P90_0x.inst [(.sl 3 yl8)])) xl2 xl3 xi4 := by kernel_rfl
theorem f90_is {R : Type} (G : ORC R) (k : Nat) (K : List V → Option R) (al1 : List V) :
    callF (TAB.env 90) G (L90 G k) Try.f90 S90 [(.sl 1 al1)] K = f90 G k al1 K := by kernel_rfl
theorem li90_0 {R : Type} (G : ORC R) (k : Nat) : LoopIs (TAB.env 90) G (L90 G k) 0 (loopAt 0 (bodyOf Try.f90)) :=
  ⟨D90_0, fun j vs K => rd90_0 G k K j vs, k, rfl, rfl, by kernel_rfl, by kernel_rfl, by kernel_rfl, (fun vs K => by unfold rd90_0; dsimp only; split <;> rfl),
    (fun j vs K r h => by
      unfold rd90_0 at h
      dsimp only at h
      split at h
      · rw [l90_0_is]; exact h
      · cases h), (fun S K r h => h)⟩
theorem lo90 : loopsOf (bodyOf Try.f90) = [(0, loopAt 0 (bodyOf Try.f90))] := by kernel_rfl
theorem la90 {R : Type} (G : ORC R) (k : Nat) : LoopsAre (TAB.env 90) G (L90 G k) (bodyOf Try.f90) :=
  loopsAre_of (by rw [lo90]; intro p hp; simp only [List.mem_cons, List.not_mem_nil, or_false] at hp; subst hp; exact li90_0 G k)
def g90 {R : Type} (G : ORC R) (k : Nat) (args : List V) (K : List V → Option R) : Option R := match args with
  | [(.sl 1 al1)] => f90 G k al1 K
  | _ => none
theorem s90 {R : Type} {G : ORC R} {k : Nat} (hG : Sound Try.prog TAB G) (args : List V) (K : List V → Option R) (r : R) (h : g90 G k args K = some r) : ∃ o, CallOK Try.prog TAB.env 90 args o ∧ K o = some r := by
  unfold g90 at h
  split at h
  · rw [← f90_is] at h
    exact callF_sound (f := 90) TAB_chk MO hG Try.func90 (sg := S90) (by kernel_rfl) (by kernel_rfl) (la90 G k) h
  · cases h
end Go.Proofs.Ytblabbcmokldiaa.Vm
open Go Go.VM
set_option linter.unusedVariables false
set_option maxRecDepth 100000
set_option maxHeartbeats 4000000
namespace Go.Proofs.Ytblabbcmokldiaa.Vm
/-! ### cotillion/cotillionref37.pick: function 109 -/
def L109 {R : Type} (_ : ORC R) (_ : Nat) : Nat → St → (Ex → St → Option R) → Option R := fun _ _ _ => none
def f109 {R : Type} (G : ORC R) (k : Nat) (al1 : List V) (as2 : ByteArray) (bl3 : List V) (bi4 : Int) (K : List V → Option R) : Option R :=
  (bif (((List.length al1 : Nat) : Int) == 0) then (K [(.str as2), (.int .i64 bi4)]) else (G 68 [(.int .i64 ((List.length al1 : Nat) : Int)), (.sl 1 bl3), (.int .i64 bi4)] fun o5 => (uI .i64 o5 fun n7 r6 => (uI .i64 r6 fun n9 r8 => (unNil r8 (bif ((decide (0 ≤ n7)) && (decide (n7 < ((List.length al1 : Nat) : Int)))) then (nthK al1 (Int.toNat n7) fun e10 => (V.asStr e10 fun s11 => (K [(.str s11), (.int .i64 n9)]))) else none))))))
theorem f109_is {R : Type} (G : ORC R) (k : Nat) (K : List V → Option R) (al1 : List V) (as2 : ByteArray) (bl3 : List V) (bi4 : Int) :
    callF (TAB.env 109) G (L109 G k) Try.f109 S109 [(.sl 1 al1), (.str as2), (.sl 1 bl3), (.int .i64 bi4)] K = f109 G k al1 as2 bl3 bi4 K := by kernel_rfl
theorem lo109 : loopsOf (bodyOf Try.f109) = [] := by kernel_rfl
theorem la109 {R : Type} (G : ORC R) (k : Nat) : LoopsAre (TAB.env 109) G (L109 G k) (bodyOf Try.f109) :=
  loopsAre_of (by rw [lo109]; intro p hp; cases hp)
def g109 {R : Type} (G : ORC R) (k : Nat) (args : List V) (K : List V → Option R) : Option R := match args with
  | [(.sl 1 al1), (.str as2), (.sl 1 bl3), (.int .i64 bi4)] => f109 G k al1 as2 bl3 bi4 K
  | _ => none
theorem s109 {R : Type} {G : ORC R} {k : Nat} (hG : Sound Try.prog TAB G) (args : List V) (K : List V → Option R) (r : R) (h : g109 G k args K = some r) : ∃ o, CallOK Try.prog TAB.env 109 args o ∧ K o = some r := by
  unfold g109 at h
  split at h
  · rw [← f109_is] at h
    exact callF_sound (f := 109) TAB_chk MO hG Try.func109 (sg := S109) (by kernel_rfl) (by kernel_rfl) (la109 G k) h
  · cases h
end Go.Proofs.Ytblabbcmokldiaa.Vm
open Go Go.VM
set_option linter.unusedVariables false
set_option maxRecDepth 100000
set_option maxHeartbeats 4000000
namespace Go.Proofs.Ytblabbcmokldiaa.Vm
/-! ### cotillion/cotillionref37.Event: function 107 -/
def L107 {R : Type} (_ : ORC R) (_ : Nat) : Nat → St → (Ex → St → Option R) → Option R := fun _ _ _ => none
def f107 {R : Type} (G : ORC R) (k : Nat) (ai1 : Int) (K : List V → Option R) : Option R :=
  (G 25 [(.int .i64 ai1), (.int .i64 8)] fun o2 => (uI .i64 o2 fun n4 r3 => (unNil r3 (bif ((decide (0 ≤ n4)) && (decide (n4 < 8))) then (nthK [(.str ⟨#[103, 111]⟩), (.str ⟨#[112, 105, 110, 103]⟩), (.str ⟨#[112, 111, 110, 103]⟩), (.str ⟨#[101, 114, 114, 111, 114]⟩), (.str ⟨#[116, 48]⟩), (.str ⟨#[98, 97, 108, 108]⟩), (.str ⟨#[103, 111]⟩), (.str ⟨#[112, 105, 110, 103]⟩)] (Int.toNat n4) fun e5 => (K [e5])) else none))))
theorem f107_is {R : Type} (G : ORC R) (k : Nat) (K : List V → Option R) (ai1 : Int) :
    callF (TAB.env 107) G (L107 G k) Try.f107 S107 [(.int .i64 ai1)] K = f107 G k ai1 K := by kernel_rfl
theorem lo107 : loopsOf (bodyOf Try.f107) = [] := by kernel_rfl
theorem la107 {R : Type} (G : ORC R) (k : Nat) : LoopsAre (TAB.env 107) G (L107 G k) (bodyOf Try.f107) :=
  loopsAre_of (by rw [lo107]; intro p hp; cases hp)
def g107 {R : Type} (G : ORC R) (k : Nat) (args : List V) (K : List V → Option R) : Option R := match args with
  | [(.int .i64 ai1)] => f107 G k ai1 K
  | _ => none
theorem s107 {R : Type} {G : ORC R} {k : Nat} (hG : Sound Try.prog TAB G) (args : List V) (K : List V → Option R) (r : R) (h : g107 G k args K = some r) : ∃ o, CallOK Try.prog TAB.env 107 args o ∧ K o = some r := by
  unfold g107 at h
  split at h
  · rw [← f107_is] at h
    exact callF_sound (f := 107) TAB_chk MO hG Try.func107 (sg := S107) (by kernel_rfl) (by kernel_rfl) (la107 G k) h
  · cases h
end Go.Proofs.Ytblabbcmokldiaa.Vm
open Go Go.VM
set_option linter.unusedVariables false
set_option maxRecDepth 100000
set_option maxHeartbeats 4000000
namespace Go.Proofs.Ytblabbcmokldiaa.Vm
/-! ### cotillion/cotillionref37.Expr: function 108 -/
def L108 {R : Type} (_ : ORC R) (_ : Nat) : Nat → St → (Ex → St → Option R) → Option R := fun _ _ _ => none
def f108 {R : Type} (G : ORC R) (k : Nat) (al1 al2 : List V) (al3 al4 : List V) (ai5 : Int) (bl6 : List V) (bi7 : Int) (K : List V → Option R) : Option R :=
  (G 68 [(.int .i64 14), (.sl 1 bl6), (.int .i64 bi7)] fun o8 => (uI .i64 o8 fun n10 r9 => (uI .i64 r9 fun n12 r11 => (unNil r11 (bif (ai5 == 0) then (bif (decide (n10 > 5)) then (bif (decide ((Int.tmod n10 6) < 2)) then (G 68 [(.int .i64 6), (.sl 1 bl6), (.int .i64 n12)] fun o13 => (uI .i64 o13 fun n15 r14 => (uI .i64 r14 fun n17 r16 => (unNil r16 (bif ((decide (0 ≤ n15)) && (decide (n15 < 6))) then (nthK [(.int .i64 0), (.int .i64 1), (.int .i64 2), (.int .i64 7), (.int .i64 1099511627776), (.int .i64 9223372036854775807)] (Int.toNat n15) fun e18 => (aI .i64 e18 fun n19 => (K [(.agg [(.int .i64 1), (.int .i64 n19), (.str ⟨#[]⟩), (.sl 5 []), (.int .i64 0)]), (.int .i64 n17)]))) else none))))) else (bif ((Int.tmod n10 6) == 2) then (bif (decide (((List.length al1 : Nat) : Int) > 0)) then (G 109 [(.sl 1 al1), (.str ⟨#[]⟩), (.sl 1 bl6), (.int .i64 n12)] fun o20 => (uS o20 fun s22 r21 => (uI .i64 r21 fun n24 r23 => (unNil r23 (K [(.agg [(.int .i64 2), (.int .i64 0), (.str s22), (.sl 5 []), (.int .i64 0)]), (.int .i64 n24)]))))) else (bif ((Int.tmod n10 6) == 3) then (bif (decide (((List.length al4 : Nat) : Int) > 0)) then (G 109 [(.sl 1 al4), (.str ⟨#[]⟩), (.sl 1 bl6), (.int .i64 n12)] fun o25 => (uS o25 fun s27 r26 => (uI .i64 r26 fun n29 r28 => (unNil r28 (K [(.agg [(.int .i64 4), (.int .i64 0), (.str s27), (.sl 5 []), (.int .i64 0)]), (.int .i64 n29)]))))) else (bif (decide ((Int.tmod n10 6) < 6)) then (K [(.agg [(.int .i64 3), (.int .i64 0), (.str ⟨#[]⟩), (.sl 5 []), (.int .i64 0)]), (.int .i64 n12)]) else (bif ((Int.tmod n10 6) == 6) then (G 68 [(.int .i64 2), (.sl 1 bl6), (.int .i64 n12)] fun o30 => (uI .i64 o30 fun n32 r31 => (uI .i64 r31 fun n34 r33 => (unNil r33 (G 108 [(.agg [(.sl 1 al1), (.sl 1 al2), (.sl 1 al3), (.sl 1 al4)]), (.int .i64 (IntKind.i64.wrap (ai5 - 1))), (.sl 1 bl6), (.int .i64 n34)] fun o35 => (uA o35 fun l37 r36 => (uI .i64 l37 fun n39 r38 => (uI .i64 r38 fun n41 r40 => (uS r40 fun s43 r42 => (uL 5 r42 fun l45 r44 => (uI .i64 r44 fun n47 r46 => (unNil r46 (uI .i64 r36 fun n49 r48 => (unNil r48 (K [(.agg [(.int .i64 (IntKind.i64.wrap (5 + n32))), (.int .i64 0), (.str ⟨#[]⟩), (.sl 5 [(.agg [(.int .i64 n39), (.int .i64 n41), (.str s43), (.sl 5 l45), (.int .i64 n47)])]), (.int .i64 0)]), (.int .i64 n49)]))))))))))))))) else (G 108 [(.agg [(.sl 1 al1), (.sl 1 al2), (.sl 1 al3), (.sl 1 al4)]), (.int .i64 (IntKind.i64.wrap (ai5 - 1))), (.sl 1 bl6), (.int .i64 n12)] fun o50 => (uA o50 fun l52 r51 => (uI .i64 l52 fun n54 r53 => (uI .i64 r53 fun n56 r55 => (uS r55 fun s58 r57 => (uL 5 r57 fun l60 r59 => (uI .i64 r59 fun n62 r61 => (unNil r61 (uI .i64 r51 fun n64 r63 => (unNil r63 (G 68 [(.int .i64 13), (.sl 1 bl6), (.int .i64 n64)] fun o65 => (uI .i64 o65 fun n67 r66 => (uI .i64 r66 fun n69 r68 => (unNil r68 (G 108 [(.agg [(.sl 1 al1), (.sl 1 al2), (.sl 1 al3), (.sl 1 al4)]), (.int .i64 (IntKind.i64.wrap (ai5 - 1))), (.sl 1 bl6), (.int .i64 n69)] fun o70 => (uA o70 fun l72 r71 => (uI .i64 l72 fun n74 r73 => (uI .i64 r73 fun n76 r75 => (uS r75 fun s78 r77 => (uL 5 r77 fun l80 r79 => (uI .i64 r79 fun n82 r81 => (unNil r81 (uI .i64 r71 fun n84 r83 => (unNil r83 (K [(.agg [(.int .i64 (IntKind.i64.wrap (7 + n67))), (.int .i64 0), (.str ⟨#[]⟩), (.sl 5 [(.agg [(.int .i64 n54), (.int .i64 n56), (.str s58), (.sl 5 l60), (.int .i64 n62)]), (.agg [(.int .i64 n74), (.int .i64 n76), (.str s78), (.sl 5 l80), (.int .i64 n82)])]), (.int .i64 0)]), (.int .i64 n84)])))))))))))))))))))))))))))) else (bif (decide ((Int.tmod n10 6) < 6)) then (K [(.agg [(.int .i64 3), (.int .i64 0), (.str ⟨#[]⟩), (.sl 5 []), (.int .i64 0)]), (.int .i64 n12)]) else (bif ((Int.tmod n10 6) == 6) then (G 68 [(.int .i64 2), (.sl 1 bl6), (.int .i64 n12)] fun o85 => (uI .i64 o85 fun n87 r86 => (uI .i64 r86 fun n89 r88 => (unNil r88 (G 108 [(.agg [(.sl 1 al1), (.sl 1 al2), (.sl 1 al3), (.sl 1 al4)]), (.int .i64 (IntKind.i64.wrap (ai5 - 1))), (.sl 1 bl6), (.int .i64 n89)] fun o90 => (uA o90 fun l92 r91 => (uI .i64 l92 fun n94 r93 => (uI .i64 r93 fun n96 r95 => (uS r95 fun s98 r97 => (uL 5 r97 fun l100 r99 => (uI .i64 r99 fun n102 r101 => (unNil r101 (uI .i64 r91 fun n104 r103 => (unNil r103 (K [(.agg [(.int .i64 (IntKind.i64.wrap (5 + n87))), (.int .i64 0), (.str ⟨#[]⟩), (.sl 5 [(.agg [(.int .i64 n94), (.int .i64 n96), (.str s98), (.sl 5 l100), (.int .i64 n102)])]), (.int .i64 0)]), (.int .i64 n104)]))))))))))))))) else (G 108 [(.agg [(.sl 1 al1), (.sl 1 al2), (.sl 1 al3), (.sl 1 al4)]), (.int .i64 (IntKind.i64.wrap (ai5 - 1))), (.sl 1 bl6), (.int .i64 n12)] fun o105 => (uA o105 fun l107 r106 => (uI .i64 l107 fun n109 r108 => (uI .i64 r108 fun n111 r110 => (uS r110 fun s113 r112 => (uL 5 r112 fun l115 r114 => (uI .i64 r114 fun n117 r116 => (unNil r116 (uI .i64 r106 fun n119 r118 => (unNil r118 (G 68 [(.int .i64 13), (.sl 1 bl6), (.int .i64 n119)] fun o120 => (uI .i64 o120 fun n122 r121 => (uI .i64 r121 fun n124 r123 => (unNil r123 (G 108 [(.agg [(.sl 1 al1), (.sl 1 al2), (.sl 1 al3), (.sl 1 al4)]), (.int .i64 (IntKind.i64.wrap (ai5 - 1))), (.sl 1 bl6), (.int .i64 n124)] fun o125 => (uA o125 fun l127 r126 => (uI .i64 l127 fun n129 r128 => (uI .i64 r128 fun n131 r130 => (uS r130 fun s133 r132 => (uL 5 r132 fun l135 r134 => (uI .i64 r134 fun n137 r136 => (unNil r136 (uI .i64 r126 fun n139 r138 => (unNil r138 (K [(.agg [(.int .i64 (IntKind.i64.wrap (7 + n122))), (.int .i64 0), (.str ⟨#[]⟩), (.sl 5 [(.agg [(.int .i64 n109), (.int .i64 n111), (.str s113), (.sl 5 l115), (.int .i64 n117)]), (.agg [(.int .i64 n129), (.int .i64 n131), (.str s133), (.sl 5 l135), (.int .i64 n137)])]), (.int .i64 0)]), (.int .i64 n139)]))))))))))))))))))))))))))))) else (bif ((Int.tmod n10 6) == 3) then (bif (decide (((List.length al4 : Nat) : Int) > 0)) then (G 109 [(.sl 1 al4), (.str ⟨#[]⟩), (.sl 1 bl6), (.int .i64 n12)] fun o140 => (uS o140 fun s142 r141 => (uI .i64 r141 fun n144 r143 => (unNil r143 (K [(.agg [(.int .i64 4), (.int .i64 0), (.str s142), (.sl 5 []), (.int .i64 0)]), (.int .i64 n144)]))))) else (bif (decide ((Int.tmod n10 6) < 6)) then (K [(.agg [(.int .i64 3), (.int .i64 0), (.str ⟨#[]⟩), (.sl 5 []), (.int .i64 0)]), (.int .i64 n12)]) else (bif ((Int.tmod n10 6) == 6) then (G 68 [(.int .i64 2), (.sl 1 bl6), (.int .i64 n12)] fun o145 => (uI .i64 o145 fun n147 r146 => (uI .i64 r146 fun n149 r148 => (unNil r148 (G 108 [(.agg [(.sl 1 al1), (.sl 1 al2), (.sl 1 al3), (.sl 1 al4)]), (.int .i64 (IntKind.i64.wrap (ai5 - 1))), (.sl 1 bl6), (.int .i64 n149)] fun o150 => (uA o150 fun l152 r151 => (uI .i64 l152 fun n154 r153 => (uI .i64 r153 fun n156 r155 => (uS r155 fun s158 r157 => (uL 5 r157 fun l160 r159 => (uI .i64 r159 fun n162 r161 => (unNil r161 (uI .i64 r151 fun n164 r163 => (unNil r163 (K [(.agg [(.int .i64 (IntKind.i64.wrap (5 + n147))), (.int .i64 0), (.str ⟨#[]⟩), (.sl 5 [(.agg [(.int .i64 n154), (.int .i64 n156), (.str s158), (.sl 5 l160), (.int .i64 n162)])]), (.int .i64 0)]), (.int .i64 n164)]))))))))))))))) else (G 108 [(.agg [(.sl 1 al1), (.sl 1 al2), (.sl 1 al3), (.sl 1 al4)]), (.int .i64 (IntKind.i64.wrap (ai5 - 1))), (.sl 1 bl6), (.int .i64 n12)] fun o165 => (uA o165 fun l167 r166 => (uI .i64 l167 fun n169 r168 => (uI .i64 r168 fun n171 r170 => (uS r170 fun s173 r172 => (uL 5 r172 fun l175 r174 => (uI .i64 r174 fun n177 r176 => (unNil r176 (uI .i64 r166 fun n179 r178 => (unNil r178 (G 68 [(.int .i64 13), (.sl 1 bl6), (.int .i64 n179)] fun o180 => (uI .i64 o180 fun n182 r181 => (uI .i64 r181 fun n184 r183 => (unNil r183 (G 108 [(.agg [(.sl 1 al1), (.sl 1 al2), (.sl 1 al3), (.sl 1 al4)]), (.int .i64 (IntKind.i64.wrap (ai5 - 1))), (.sl 1 bl6), (.int .i64 n184)] fun o185 => (uA o185 fun l187 r186 => (uI .i64 l187 fun n189 r188 => (uI .i64 r188 fun n191 r190 => (uS r190 fun s193 r192 => (uL 5 r192 fun l195 r194 => (uI .i64 r194 fun n197 r196 => (unNil r196 (uI .i64 r186 fun n199 r198 => (unNil r198 (K [(.agg [(.int .i64 (IntKind.i64.wrap (7 + n182))), (.int .i64 0), (.str ⟨#[]⟩), (.sl 5 [(.agg [(.int .i64 n169), (.int .i64 n171), (.str s173), (.sl 5 l175), (.int .i64 n177)]), (.agg [(.int .i64 n189), (.int .i64 n191), (.str s193), (.sl 5 l195), (.int .i64 n197)])]), (.int .i64 0)]), (.int .i64 n199)])))))))))))))))))))))))))))) else (bif (decide ((Int.tmod n10 6) < 6)) then (K [(.agg [(.int .i64 3), (.int .i64 0), (.str ⟨#[]⟩), (.sl 5 []), (.int .i64 0)]), (.int .i64 n12)]) else (bif ((Int.tmod n10 6) == 6) then (G 68 [(.int .i64 2), (.sl 1 bl6), (.int .i64 n12)] fun o200 => (uI .i64 o200 fun n202 r201 => (uI .i64 r201 fun n204 r203 => (unNil r203 (G 108 [(.agg [(.sl 1 al1), (.sl 1 al2), (.sl 1 al3), (.sl 1 al4)]), (.int .i64 (IntKind.i64.wrap (ai5 - 1))), (.sl 1 bl6), (.int .i64 n204)] fun o205 => (uA o205 fun l207 r206 => (uI .i64 l207 fun n209 r208 => (uI .i64 r208 fun n211 r210 => (uS r210 fun s213 r212 => (uL 5 r212 fun l215 r214 => (uI .i64 r214 fun n217 r216 => (unNil r216 (uI .i64 r206 fun n219 r218 => (unNil r218 (K [(.agg [(.int .i64 (IntKind.i64.wrap (5 + n202))), (.int .i64 0), (.str ⟨#[]⟩), (.sl 5 [(.agg [(.int .i64 n209), (.int .i64 n211), (.str s213), (.sl 5 l215), (.int .i64 n217)])]), (.int .i64 0)]), (.int .i64 n219)]))))))))))))))) else (G 108 [(.agg [(.sl 1 al1), (.sl 1 al2), (.sl 1 al3), (.sl 1 al4)]), (.int .i64 (IntKind.i64.wrap (ai5 - 1))), (.sl 1 bl6), (.int .i64 n12)] fun o220 => (uA o220 fun l222 r221 => (uI .i64 l222 fun n224 r223 => (uI .i64 r223 fun n226 r225 => (uS r225 fun s228 r227 => (uL 5 r227 fun l230 r229 => (uI .i64 r229 fun n232 r231 => (unNil r231 (uI .i64 r221 fun n234 r233 => (unNil r233 (G 68 [(.int .i64 13), (.sl 1 bl6), (.int .i64 n234)] fun o235 => (uI .i64 o235 fun n237 r236 => (uI .i64 r236 fun n239 r238 => (unNil r238 (G 108 [(.agg [(.sl 1 al1), (.sl 1 al2), (.sl 1 al3), (.sl 1 al4)]), (.int .i64 (IntKind.i64.wrap (ai5 - 1))), (.sl 1 bl6), (.int .i64 n239)] fun o240 => (uA o240 fun l242 r241 => (uI .i64 l242 fun n244 r243 => (uI .i64 r243 fun n246 r245 => (uS r245 fun s248 r247 => (uL 5 r247 fun l250 r249 => (uI .i64 r249 fun n252 r251 => (unNil r251 (uI .i64 r241 fun n254 r253 => (unNil r253 (K [(.agg [(.int .i64 (IntKind.i64.wrap (7 + n237))), (.int .i64 0), (.str ⟨#[]⟩), (.sl 5 [(.agg [(.int .i64 n224), (.int .i64 n226), (.str s228), (.sl 5 l230), (.int .i64 n232)]), (.agg [(.int .i64 n244), (.int .i64 n246), (.str s248), (.sl 5 l250), (.int .i64 n252)])]), (.int .i64 0)]), (.int .i64 n254)])))))))))))))))))))))))))))))) else (bif (decide (n10 < 2)) then (G 68 [(.int .i64 6), (.sl 1 bl6), (.int .i64 n12)] fun o255 => (uI .i64 o255 fun n257 r256 => (uI .i64 r256 fun n259 r258 => (unNil r258 (bif ((decide (0 ≤ n257)) && (decide (n257 < 6))) then (nthK [(.int .i64 0), (.int .i64 1), (.int .i64 2), (.int .i64 7), (.int .i64 1099511627776), (.int .i64 9223372036854775807)] (Int.toNat n257) fun e260 => (aI .i64 e260 fun n261 => (K [(.agg [(.int .i64 1), (.int .i64 n261), (.str ⟨#[]⟩), (.sl 5 []), (.int .i64 0)]), (.int .i64 n259)]))) else none))))) else (bif (n10 == 2) then (bif (decide (((List.length al1 : Nat) : Int) > 0)) then (G 109 [(.sl 1 al1), (.str ⟨#[]⟩), (.sl 1 bl6), (.int .i64 n12)] fun o262 => (uS o262 fun s264 r263 => (uI .i64 r263 fun n266 r265 => (unNil r265 (K [(.agg [(.int .i64 2), (.int .i64 0), (.str s264), (.sl 5 []), (.int .i64 0)]), (.int .i64 n266)]))))) else (bif (n10 == 3) then (bif (decide (((List.length al4 : Nat) : Int) > 0)) then (G 109 [(.sl 1 al4), (.str ⟨#[]⟩), (.sl 1 bl6), (.int .i64 n12)] fun o267 => (uS o267 fun s269 r268 => (uI .i64 r268 fun n271 r270 => (unNil r270 (K [(.agg [(.int .i64 4), (.int .i64 0), (.str s269), (.sl 5 []), (.int .i64 0)]), (.int .i64 n271)]))))) else (bif (decide (n10 < 6)) then (K [(.agg [(.int .i64 3), (.int .i64 0), (.str ⟨#[]⟩), (.sl 5 []), (.int .i64 0)]), (.int .i64 n12)]) else (bif (n10 == 6) then (G 68 [(.int .i64 2), (.sl 1 bl6), (.int .i64 n12)] fun o272 => (uI .i64 o272 fun n274 r273 => (uI .i64 r273 fun n276 r275 => (unNil r275 (G 108 [(.agg [(.sl 1 al1), (.sl 1 al2), (.sl 1 al3), (.sl 1 al4)]), (.int .i64 (IntKind.i64.wrap (ai5 - 1))), (.sl 1 bl6), (.int .i64 n276)] fun o277 => (uA o277 fun l279 r278 => (uI .i64 l279 fun n281 r280 => (uI .i64 r280 fun n283 r282 => (uS r282 fun s285 r284 => (uL 5 r284 fun l287 r286 => (uI .i64 r286 fun n289 r288 => (unNil r288 (uI .i64 r278 fun n291 r290 => (unNil r290 (K [(.agg [(.int .i64 (IntKind.i64.wrap (5 + n274))), (.int .i64 0), (.str ⟨#[]⟩), (.sl 5 [(.agg [(.int .i64 n281), (.int .i64 n283), (.str s285), (.sl 5 l287), (.int .i64 n289)])]), (.int .i64 0)]), (.int .i64 n291)]))))))))))))))) else (G 108 [(.agg [(.sl 1 al1), (.sl 1 al2), (.sl 1 al3), (.sl 1 al4)]), (.int .i64 (IntKind.i64.wrap (ai5 - 1))), (.sl 1 bl6), (.int .i64 n12)] fun o292 => (uA o292 fun l294 r293 => (uI .i64 l294 fun n296 r295 => (uI .i64 r295 fun n298 r297 => (uS r297 fun s300 r299 => (uL 5 r299 fun l302 r301 => (uI .i64 r301 fun n304 r303 => (unNil r303 (uI .i64 r293 fun n306 r305 => (unNil r305 (G 68 [(.int .i64 13), (.sl 1 bl6), (.int .i64 n306)] fun o307 => (uI .i64 o307 fun n309 r308 => (uI .i64 r308 fun n311 r310 => (unNil r310 (G 108 [(.agg [(.sl 1 al1), (.sl 1 al2), (.sl 1 al3), (.sl 1 al4)]), (.int .i64 (IntKind.i64.wrap (ai5 - 1))), (.sl 1 bl6), (.int .i64 n311)] fun o312 => (uA o312 fun l314 r313 => (uI .i64 l314 fun n316 r315 => (uI .i64 r315 fun n318 r317 => (uS r317 fun s320 r319 => (uL 5 r319 fun l322 r321 => (uI .i64 r321 fun n324 r323 => (unNil r323 (uI .i64 r313 fun n326 r325 => (unNil r325 (K [(.agg [(.int .i64 (IntKind.i64.wrap (7 + n309))), (.int .i64 0), (.str ⟨#[]⟩), (.sl 5 [(.agg [(.int .i64 n296), (.int .i64 n298), (.str s300), (.sl 5 l302), (.int .i64 n304)]), (.agg [(.int .i64 n316), (.int .i64 n318), (.str s320), (.sl 5 l322), (.int .i64 n324)])]), (.int .i64 0)]), (.int .i64 n326)])))))))))))))))))))))))))))) else (bif (decide (n10 < 6)) then (K [(.agg [(.int .i64 3), (.int .i64 0), (.str ⟨#[]⟩), (.sl 5 []), (.int .i64 0)]), (.int .i64 n12)]) else (bif (n10 == 6) then (G 68 [(.int .i64 2), (.sl 1 bl6), (.int .i64 n12)] fun o327 => (uI .i64 o327 fun n329 r328 => (uI .i64 r328 fun n331 r330 => (unNil r330 (G 108 [(.agg [(.sl 1 al1), (.sl 1 al2), (.sl 1 al3), (.sl 1 al4)]), (.int .i64 (IntKind.i64.wrap (ai5 - 1))), (.sl 1 bl6), (.int .i64 n331)] fun o332 => (uA o332 fun l334 r333 => (uI .i64 l334 fun n336 r335 => (uI .i64 r335 fun n338 r337 => (uS r337 fun s340 r339 => (uL 5 r339 fun l342 r341 => (uI .i64 r341 fun n344 r343 => (unNil r343 (uI .i64 r333 fun n346 r345 => (unNil r345 (K [(.agg [(.int .i64 (IntKind.i64.wrap (5 + n329))), (.int .i64 0), (.str ⟨#[]⟩), (.sl 5 [(.agg [(.int .i64 n336), (.int .i64 n338), (.str s340), (.sl 5 l342), (.int .i64 n344)])]), (.int .i64 0)]), (.int .i64 n346)]))))))))))))))) else (G 108 [(.agg [(.sl 1 al1), (.sl 1 al2), (.sl 1 al3), (.sl 1 al4)]), (.int .i64 (IntKind.i64.wrap (ai5 - 1))), (.sl 1 bl6), (.int .i64 n12)] fun o347 => (uA o347 fun l349 r348 => (uI .i64 l349 fun n351 r350 => (uI .i64 r350 fun n353 r352 => (uS r352 fun s355 r354 => (uL 5 r354 fun l357 r356 => (uI .i64 r356 fun n359 r358 => (unNil r358 (uI .i64 r348 fun n361 r360 => (unNil r360 (G 68 [(.int .i64 13), (.sl 1 bl6), (.int .i64 n361)] fun o362 => (uI .i64 o362 fun n364 r363 => (uI .i64 r363 fun n366 r365 => (unNil r365 (G 108 [(.agg [(.sl 1 al1), (.sl 1 al2), (.sl 1 al3), (.sl 1 al4)]), (.int .i64 (IntKind.i64.wrap (ai5 - 1))), (.sl 1 bl6), (.int .i64 n366)] fun o367 => (uA o367 fun l369 r368 => (uI .i64 l369 fun n371 r370 => (uI .i64 r370 fun n373 r372 => (uS r372 fun s375 r374 => (uL 5 r374 fun l377 r376 => (uI .i64 r376 fun n379 r378 => (unNil r378 (uI .i64 r368 fun n381 r380 => (unNil r380 (K [(.agg [(.int .i64 (IntKind.i64.wrap (7 + n364))), (.int .i64 0), (.str ⟨#[]⟩), (.sl 5 [(.agg [(.int .i64 n351), (.int .i64 n353), (.str s355), (.sl 5 l357), (.int .i64 n359)]), (.agg [(.int .i64 n371), (.int .i64 n373), (.str s375), (.sl 5 l377), (.int .i64 n379)])]), (.int .i64 0)]), (.int .i64 n381)]))))))))))))))))))))))))))))) else (bif (n10 == 3) then (bif (decide (((List.length al4 : Nat) : Int) > 0)) then (G 109 [(.sl 1 al4), (.str ⟨#[]⟩), (.sl 1 bl6), (.int .i64 n12)] fun o382 => (uS o382 fun s384 r383 => (uI .i64 r383 fun n386 r385 => (unNil r385 (K [(.agg [(.int .i64 4), (.int .i64 0), (.str s384), (.sl 5 []), (.int .i64 0)]), (.int .i64 n386)]))))) else (bif (decide (n10 < 6)) then (K [(.agg [(.int .i64 3), (.int .i64 0), (.str ⟨#[]⟩), (.sl 5 []), (.int .i64 0)]), (.int .i64 n12)]) else (bif (n10 == 6) then (G 68 [(.int .i64 2), (.sl 1 bl6), (.int .i64 n12)] fun o387 => (uI .i64 o387 fun n389 r388 => (uI .i64 r388 fun n391 r390 => (unNil r390 (G 108 [(.agg [(.sl 1 al1), (.sl 1 al2), (.sl 1 al3), (.sl 1 al4)]), (.int .i64 (IntKind.i64.wrap (ai5 - 1))), (.sl 1 bl6), (.int .i64 n391)] fun o392 => (uA o392 fun l394 r393 => (uI .i64 l394 fun n396 r395 => (uI .i64 r395 fun n398 r397 => (uS r397 fun s400 r399 => (uL 5 r399 fun l402 r401 => (uI .i64 r401 fun n404 r403 => (unNil r403 (uI .i64 r393 fun n406 r405 => (unNil r405 (K [(.agg [(.int .i64 (IntKind.i64.wrap (5 + n389))), (.int .i64 0), (.str ⟨#[]⟩), (.sl 5 [(.agg [(.int .i64 n396), (.int .i64 n398), (.str s400), (.sl 5 l402), (.int .i64 n404)])]), (.int .i64 0)]), (.int .i64 n406)]))))))))))))))) else (G 108 [(.agg [(.sl 1 al1), (.sl 1 al2), (.sl 1 al3), (.sl 1 al4)]), (.int .i64 (IntKind.i64.wrap (ai5 - 1))), (.sl 1 bl6), (.int .i64 n12)] fun o407 => (uA o407 fun l409 r408 => (uI .i64 l409 fun n411 r410 => (uI .i64 r410 fun n413 r412 => (uS r412 fun s415 r414 => (uL 5 r414 fun l417 r416 => (uI .i64 r416 fun n419 r418 => (unNil r418 (uI .i64 r408 fun n421 r420 => (unNil r420 (G 68 [(.int .i64 13), (.sl 1 bl6), (.int .i64 n421)] fun o422 => (uI .i64 o422 fun n424 r423 => (uI .i64 r423 fun n426 r425 => (unNil r425 (G 108 [(.agg [(.sl 1 al1), (.sl 1 al2), (.sl 1 al3), (.sl 1 al4)]), (.int .i64 (IntKind.i64.wrap (ai5 - 1))), (.sl 1 bl6), (.int .i64 n426)] fun o427 => (uA o427 fun l429 r428 => (uI .i64 l429 fun n431 r430 => (uI .i64 r430 fun n433 r432 => (uS r432 fun s435 r434 => (uL 5 r434 fun l437 r436 => (uI .i64 r436 fun n439 r438 => (unNil r438 (uI .i64 r428 fun n441 r440 => (unNil r440 (K [(.agg [(.int .i64 (IntKind.i64.wrap (7 + n424))), (.int .i64 0), (.str ⟨#[]⟩), (.sl 5 [(.agg [(.int .i64 n411), (.int .i64 n413), (.str s415), (.sl 5 l417), (.int .i64 n419)]), (.agg [(.int .i64 n431), (.int .i64 n433), (.str s435), (.sl 5 l437), (.int .i64 n439)])]), (.int .i64 0)]), (.int .i64 n441)])))))))))))))))))))))))))))) else (bif (decide (n10 < 6)) then (K [(.agg [(.int .i64 3), (.int .i64 0), (.str ⟨#[]⟩), (.sl 5 []), (.int .i64 0)]), (.int .i64 n12)]) else (bif (n10 == 6) then (G 68 [(.int .i64 2), (.sl 1 bl6), (.int .i64 n12)] fun o442 => (uI .i64 o442 fun n444 r443 => (uI .i64 r443 fun n446 r445 => (unNil r445 (G 108 [(.agg [(.sl 1 al1), (.sl 1 al2), (.sl 1 al3), (.sl 1 al4)]), (.int .i64 (IntKind.i64.wrap (ai5 - 1))), (.sl 1 bl6), (.int .i64 n446)] fun o447 => (uA o447 fun l449 r448 => (uI .i64 l449 fun n451 r450 => (uI .i64 r450 fun n453 r452 => (uS r452 fun s455 r454 => (uL 5 r454 fun l457 r456 => (uI .i64 r456 fun n459 r458 => (unNil r458 (uI .i64 r448 fun n461 r460 => (unNil r460 (K [(.agg [(.int .i64 (IntKind.i64.wrap (5 + n444))), (.int .i64 0), (.str ⟨#[]⟩), (.sl 5 [(.agg [(.int .i64 n451), (.int .i64 n453), (.str s455), (.sl 5 l457), (.int .i64 n459)])]), (.int .i64 0)]), (.int .i64 n461)]))))))))))))))) else (G 108 [(.agg [(.sl 1 al1), (.sl 1 al2), (.sl 1 al3), (.sl 1 al4)]), (.int .i64 (IntKind.i64.wrap (ai5 - 1))), (.sl 1 bl6), (.int .i64 n12)] fun o462 => (uA o462 fun l464 r463 => (uI .i64 l464 fun n466 r465 => (uI .i64 r465 fun n468 r467 => (uS r467 fun s470 r469 => (uL 5 r469 fun l472 r471 => (uI .i64 r471 fun n474 r473 => (unNil r473 (uI .i64 r463 fun n476 r475 => (unNil r475 (G 68 [(.int .i64 13), (.sl 1 bl6), (.int .i64 n476)] fun o477 => (uI .i64 o477 fun n479 r478 => (uI .i64 r478 fun n481 r480 => (unNil r480 (G 108 [(.agg [(.sl 1 al1), (.sl 1 al2), (.sl 1 al3), (.sl 1 al4)]), (.int .i64 (IntKind.i64.wrap (ai5 - 1))), (.sl 1 bl6), (.int .i64 n481)] fun o482 => (uA o482 fun l484 r483 => (uI .i64 l484 fun n486 r485 => (uI .i64 r485 fun n488 r487 => (uS r487 fun s490 r489 => (uL 5 r489 fun l492 r491 => (uI .i64 r491 fun n494 r493 => (unNil r493 (uI .i64 r483 fun n496 r495 => (unNil r495 (K [(.agg [(.int .i64 (IntKind.i64.wrap (7 + n479))), (.int .i64 0), (.str ⟨#[]⟩), (.sl 5 [(.agg [(.int .i64 n466), (.int .i64 n468), (.str s470), (.sl 5 l472), (.int .i64 n474)]), (.agg [(.int .i64 n486), (.int .i64 n488), (.str s490), (.sl 5 l492), (.int .i64 n494)])]), (.int .i64 0)]), (.int .i64 n496)]))))))))))))))))))))))))))))))) else (bif (decide (n10 < 2)) then (G 68 [(.int .i64 6), (.sl 1 bl6), (.int .i64 n12)] fun o497 => (uI .i64 o497 fun n499 r498 => (uI .i64 r498 fun n501 r500 => (unNil r500 (bif ((decide (0 ≤ n499)) && (decide (n499 < 6))) then (nthK [(.int .i64 0), (.int .i64 1), (.int .i64 2), (.int .i64 7), (.int .i64 1099511627776), (.int .i64 9223372036854775807)] (Int.toNat n499) fun e502 => (aI .i64 e502 fun n503 => (K [(.agg [(.int .i64 1), (.int .i64 n503), (.str ⟨#[]⟩), (.sl 5 []), (.int .i64 0)]), (.int .i64 n501)]))) else none))))) else (bif (n10 == 2) then (bif (decide (((List.length al1 : Nat) : Int) > 0)) then (G 109 [(.sl 1 al1), (.str ⟨#[]⟩), (.sl 1 bl6), (.int .i64 n12)] fun o504 => (uS o504 fun s506 r505 => (uI .i64 r505 fun n508 r507 => (unNil r507 (K [(.agg [(.int .i64 2), (.int .i64 0), (.str s506), (.sl 5 []), (.int .i64 0)]), (.int .i64 n508)]))))) else (bif (n10 == 3) then (bif (decide (((List.length al4 : Nat) : Int) > 0)) then (G 109 [(.sl 1 al4), (.str ⟨#[]⟩), (.sl 1 bl6), (.int .i64 n12)] fun o509 => (uS o509 fun s511 r510 => (uI .i64 r510 fun n513 r512 => (unNil r512 (K [(.agg [(.int .i64 4), (.int .i64 0), (.str s511), (.sl 5 []), (.int .i64 0)]), (.int .i64 n513)]))))) else (bif (decide (n10 < 6)) then (K [(.agg [(.int .i64 3), (.int .i64 0), (.str ⟨#[]⟩), (.sl 5 []), (.int .i64 0)]), (.int .i64 n12)]) else (bif (n10 == 6) then (G 68 [(.int .i64 2), (.sl 1 bl6), (.int .i64 n12)] fun o514 => (uI .i64 o514 fun n516 r515 => (uI .i64 r515 fun n518 r517 => (unNil r517 (G 108 [(.agg [(.sl 1 al1), (.sl 1 al2), (.sl 1 al3), (.sl 1 al4)]), (.int .i64 (IntKind.i64.wrap (ai5 - 1))), (.sl 1 bl6), (.int .i64 n518)] fun o519 => (uA o519 fun l521 r520 => (uI .i64 l521 fun n523 r522 => (uI .i64 r522 fun n525 r524 => (uS r524 fun s527 r526 => (uL 5 r526 fun l529 r528 => (uI .i64 r528 fun n531 r530 => (unNil r530 (uI .i64 r520 fun n533 r532 => (unNil r532 (K [(.agg [(.int .i64 (IntKind.i64.wrap (5 + n516))), (.int .i64 0), (.str ⟨#[]⟩), (.sl 5 [(.agg [(.int .i64 n523), (.int .i64 n525), (.str s527), (.sl 5 l529), (.int .i64 n531)])]), (.int .i64 0)]), (.int .i64 n533)]))))))))))))))) else (G 108 [(.agg [(.sl 1 al1), (.sl 1 al2), (.sl 1 al3), (.sl 1 al4)]), (.int .i64 (IntKind.i64.wrap (ai5 - 1))), (.sl 1 bl6), (.int .i64 n12)] fun o534 => (uA o534 fun l536 r535 => (uI .i64 l536 fun n538 r537 => (uI .i64 r537 fun n540 r539 => (uS r539 fun s542 r541 => (uL 5 r541 fun l544 r543 => (uI .i64 r543 fun n546 r545 => (unNil r545 (uI .i64 r535 fun n548 r547 => (unNil r547 (G 68 [(.int .i64 13), (.sl 1 bl6), (.int .i64 n548)] fun o549 => (uI .i64 o549 fun n551 r550 => (uI .i64 r550 fun n553 r552 => (unNil r552 (G 108 [(.agg [(.sl 1 al1), (.sl 1 al2), (.sl 1 al3), (.sl 1 al4)]), (.int .i64 (IntKind.i64.wrap (ai5 - 1))), (.sl 1 bl6), (.int .i64 n553)] fun o554 => (uA o554 fun l556 r555 => (uI .i64 l556 fun n558 r557 => (uI .i64 r557 fun n560 r559 => (uS r559 fun s562 r561 => (uL 5 r561 fun l564 r563 => (uI .i64 r563 fun n566 r565 => (unNil r565 (uI .i64 r555 fun n568 r567 => (unNil r567 (K [(.agg [(.int .i64 (IntKind.i64.wrap (7 + n551))), (.int .i64 0), (.str ⟨#[]⟩), (.sl 5 [(.agg [(.int .i64 n538), (.int .i64 n540), (.str s542), (.sl 5 l544), (.int .i64 n546)]), (.agg [(.int .i64 n558), (.int .i64 n560), (.str s562), (.sl 5 l564), (.int .i64 n566)])]), (.int .i64 0)]), (.int .i64 n568)])))))))))))))))))))))))))))) else (bif (decide (n10 < 6)) then (K [(.agg [(.int .i64 3), (.int .i64 0), (.str ⟨#[]⟩), (.sl 5 []), (.int .i64 0)]), (.int .i64 n12)]) else (bif (n10 == 6) then (G 68 [(.int .i64 2), (.sl 1 bl6), (.int .i64 n12)] fun o569 => (uI .i64 o569 fun n571 r570 => (uI .i64 r570 fun n573 r572 => (unNil r572 (G 108 [(.agg [(.sl 1 al1), (.sl 1 al2), (.sl 1 al3), (.sl 1 al4)]), (.int .i64 (IntKind.i64.wrap (ai5 - 1))), (.sl 1 bl6), (.int .i64 n573)] fun o574 => (uA o574 fun l576 r575 => (uI .i64 l576 fun n578 r577 => (uI .i64 r577 fun n580 r579 => (uS r579 fun s582 r581 => (uL 5 r581 fun l584 r583 => (uI .i64 r583 fun n586 r585 => (unNil r585 (uI .i64 r575 fun n588 r587 => (unNil r587 (K [(.agg [(.int .i64 (IntKind.i64.wrap (5 + n571))), (.int .i64 0), (.str ⟨#[]⟩), (.sl 5 [(.agg [(.int .i64 n578), (.int .i64 n580), (.str s582), (.sl 5 l584), (.int .i64 n586)])]), (.int .i64 0)]), (.int .i64 n588)]))))))))))))))) else (G 108 [(.agg [(.sl 1 al1), (.sl 1 al2), (.sl 1 al3), (.sl 1 al4)]), (.int .i64 (IntKind.i64.wrap (ai5 - 1))), (.sl 1 bl6), (.int .i64 n12)] fun o589 => (uA o589 fun l591 r590 => (uI .i64 l591 fun n593 r592 => (uI .i64 r592 fun n595 r594 => (uS r594 fun s597 r596 => (uL 5 r596 fun l599 r598 => (uI .i64 r598 fun n601 r600 => (unNil r600 (uI .i64 r590 fun n603 r602 => (unNil r602 (G 68 [(.int .i64 13), (.sl 1 bl6), (.int .i64 n603)] fun o604 => (uI .i64 o604 fun n606 r605 => (uI .i64 r605 fun n608 r607 => (unNil r607 (G 108 [(.agg [(.sl 1 al1), (.sl 1 al2), (.sl 1 al3), (.sl 1 al4)]), (.int .i64 (IntKind.i64.wrap (ai5 - 1))), (.sl 1 bl6), (.int .i64 n608)] fun o609 => (uA o609 fun l611 r610 => (uI .i64 l611 fun n613 r612 => (uI .i64 r612 fun n615 r614 => (uS r614 fun s617 r616 => (uL 5 r616 fun l619 r618 => (uI .i64 r618 fun n621 r620 => (unNil r620 (uI .i64 r610 fun n623 r622 => (unNil r622 (K [(.agg [(.int .i64 (IntKind.i64.wrap (7 + n606))), (.int .i64 0), (.str ⟨#[]⟩), (.sl 5 [(.agg [(.int .i64 n593), (.int .i64 n595), (.str s597), (.sl 5 l599), (.int .i64 n601)]), (.agg [(.int .i64 n613), (.int .i64 n615), (.str s617), (.sl 5 l619), (.int .i64 n621)])]), (.int .i64 0)]), (.int .i64 n623)]))))))))))))))))))))))))))))) else (bif (n10 == 3) then (bif (decide (((List.length al4 : Nat) : Int) > 0)) then (G 109 [(.sl 1 al4), (.str ⟨#[]⟩), (.sl 1 bl6), (.int .i64 n12)] fun o624 => (uS o624 fun s626 r625 => (uI .i64 r625 fun n628 r627 => (unNil r627 (K [(.agg [(.int .i64 4), (.int .i64 0), (.str s626), (.sl 5 []), (.int .i64 0)]), (.int .i64 n628)]))))) else (bif (decide (n10 < 6)) then (K [(.agg [(.int .i64 3), (.int .i64 0), (.str ⟨#[]⟩), (.sl 5 []), (.int .i64 0)]), (.int .i64 n12)]) else (bif (n10 == 6) then (G 68 [(.int .i64 2), (.sl 1 bl6), (.int .i64 n12)] fun o629 => (uI .i64 o629 fun n631 r630 => (uI .i64 r630 fun n633 r632 => (unNil r632 (G 108 [(.agg [(.sl 1 al1), (.sl 1 al2), (.sl 1 al3), (.sl 1 al4)]), (.int .i64 (IntKind.i64.wrap (ai5 - 1))), (.sl 1 bl6), (.int .i64 n633)] fun o634 => (uA o634 fun l636 r635 => (uI .i64 l636 fun n638 r637 => (uI .i64 r637 fun n640 r639 => (uS r639 fun s642 r641 => (uL 5 r641 fun l644 r643 => (uI .i64 r643 fun n646 r645 => (unNil r645 (uI .i64 r635 fun n648 r647 => (unNil r647 (K [(.agg [(.int .i64 (IntKind.i64.wrap (5 + n631))), (.int .i64 0), (.str ⟨#[]⟩), (.sl 5 [(.agg [(.int .i64 n638), (.int .i64 n640), (.str s642), (.sl 5 l644), (.int .i64 n646)])]), (.int .i64 0)]), (.int .i64 n648)]))))))))))))))) else (G 108 [(.agg [(.sl 1 al1), (.sl 1 al2), (.sl 1 al3), (.sl 1 al4)]), (.int .i64 (IntKind.i64.wrap (ai5 - 1))), (.sl 1 bl6), (.int .i64 n12)] fun o649 => (uA o649 fun l651 r650 => (uI .i64 l651 fun n653 r652 => (uI .i64 r652 fun n655 r654 => (uS r654 fun s657 r656 => (uL 5 r656 fun l659 r658 => (uI .i64 r658 fun n661 r660 => (unNil r660 (uI .i64 r650 fun n663 r662 => (unNil r662 (G 68 [(.int .i64 13), (.sl 1 bl6), (.int .i64 n663)] fun o664 => (uI .i64 o664 fun n666 r665 => (uI .i64 r665 fun n668 r667 => (unNil r667 (G 108 [(.agg [(.sl 1 al1), (.sl 1 al2), (.sl 1 al3), (.sl 1 al4)]), (.int .i64 (IntKind.i64.wrap (ai5 - 1))), (.sl 1 bl6), (.int .i64 n668)] fun o669 => (uA o669 fun l671 r670 => (uI .i64 l671 fun n673 r672 => (uI .i64 r672 fun n675 r674 => (uS r674 fun s677 r676 => (uL 5 r676 fun l679 r678 => (uI .i64 r678 fun n681 r680 => (unNil r680 (uI .i64 r670 fun n683 r682 => (unNil r682 (K [(.agg [(.int .i64 (IntKind.i64.wrap (7 + n666))), (.int .i64 0), (.str ⟨#[]⟩), (.sl 5 [(.agg [(.int .i64 n653), (.int .i64 n655), (.str s657), (.sl 5 l659), (.int .i64 n661)]), (.agg [(.int .i64 n673), (.int .i64 n675), (.str s677), (.sl 5 l679), (.int .i64 n681)])]), (.int .i64 0)]), (.int .i64 n683)])))))))))))))))))))))))))))) else (bif (decide (n10 < 6)) then (K [(.agg [(.int .i64 3), (.int .i64 0), (.str ⟨#[]⟩), (.sl 5 []), (.int .i64 0)]), (.int .i64 n12)]) else (bif (n10 == 6) then (G 68 [(.int .i64 2), (.sl 1 bl6), (.int .i64 n12)] fun o684 => (uI .i64 o684 fun n686 r685 => (uI .i64 r685 fun n688 r687 => (unNil r687 (G 108 [(.agg [(.sl 1 al1), (.sl 1 al2), (.sl 1 al3), (.sl 1 al4)]), (.int .i64 (IntKind.i64.wrap (ai5 - 1))), (.sl 1 bl6), (.int .i64 n688)] fun o689 => (uA o689 fun l691 r690 => (uI .i64 l691 fun n693 r692 => (uI .i64 r692 fun n695 r694 => (uS r694 fun s697 r696 => (uL 5 r696 fun l699 r698 => (uI .i64 r698 fun n701 r700 => (unNil r700 (uI .i64 r690 fun n703 r702 => (unNil r702 (K [(.agg [(.int .i64 (IntKind.i64.wrap (5 + n686))), (.int .i64 0), (.str ⟨#[]⟩), (.sl 5 [(.agg [(.int .i64 n693), (.int .i64 n695), (.str s697), (.sl 5 l699), (.int .i64 n701)])]), (.int .i64 0)]), (.int .i64 n703)]))))))))))))))) else (G 108 [(.agg [(.sl 1 al1), (.sl 1 al2), (.sl 1 al3), (.sl 1 al4)]), (.int .i64 (IntKind.i64.wrap (ai5 - 1))), (.sl 1 bl6), (.int .i64 n12)] fun o704 => (uA o704 fun l706 r705 => (uI .i64 l706 fun n708 r707 => (uI .i64 r707 fun n710 r709 => (uS r709 fun s712 r711 => (uL 5 r711 fun l714 r713 => (uI .i64 r713 fun n716 r715 => (unNil r715 (uI .i64 r705 fun n718 r717 => (unNil r717 (G 68 [(.int .i64 13), (.sl 1 bl6), (.int .i64 n718)] fun o719 => (uI .i64 o719 fun n721 r720 => (uI .i64 r720 fun n723 r722 => (unNil r722 (G 108 [(.agg [(.sl 1 al1), (.sl 1 al2), (.sl 1 al3), (.sl 1 al4)]), (.int .i64 (IntKind.i64.wrap (ai5 - 1))), (.sl 1 bl6), (.int .i64 n723)] fun o724 => (uA o724 fun l726 r725 => (uI .i64 l726 fun n728 r727 => (uI .i64 r727 fun n730 r729 => (uS r729 fun s732 r731 => (uL 5 r731 fun l734 r733 => (uI .i64 r733 fun n736 r735 => (unNil r735 (uI .i64 r725 fun n738 r737 => (unNil r737 (K [(.agg [(.int .i64 (IntKind.i64.wrap (7 + n721))), (.int .i64 0), (.str ⟨#[]⟩), (.sl 5 [(.agg [(.int .i64 n708), (.int .i64 n710), (.str s712), (.sl 5 l714), (.int .i64 n716)]), (.agg [(.int .i64 n728), (.int .i64 n730), (.str s732), (.sl 5 l734), (.int .i64 n736)])]), (.int .i64 0)]), (.int .i64 n738)])))))))))))))))))))))))))))))))))))
theorem f108_is {R : Type} (G : ORC R) (k : Nat) (K : List V → Option R) (al1 al2 : List V) (al3 al4 : List V) (ai5 : Int) (bl6 : List V) (bi7 : Int) :
    callF (TAB.env 108) G (L108 G k) Try.f108 S108 [(.agg [(.sl 1 al1), (.sl 1 al2), (.sl 1 al3), (.sl 1 al4)]), (.int .i64 ai5), (.sl 1 bl6), (.int .i64 bi7)] K = f108 G k al1 al2 al3 al4 ai5 bl6 bi7 K := by kernel_rfl
theorem lo108 : loopsOf (bodyOf Try.f108) = [] := by kernel_rfl
theorem la108 {R : Type} (G : ORC R) (k : Nat) : LoopsAre (TAB.env 108) G (L108 G k) (bodyOf Try.f108) :=
  loopsAre_of (by rw [lo108]; intro p hp; cases hp)
def g108 {R : Type} (G : ORC R) (k : Nat) (args : List V) (K : List V → Option R) : Option R := match args with
  | [(.agg [(.sl 1 al1), (.sl 1 al2), (.sl 1 al3), (.sl 1 al4)]), (.int .i64 ai5), (.sl 1 bl6), (.int .i64 bi7)] => f108 G k al1 al2 al3 al4 ai5 bl6 bi7 K
  | _ => none
theorem s108 {R : Type} {G : ORC R} {k : Nat} (hG : Sound Try.prog TAB G) (args : List V) (K : List V → Option R) (r : R) (h : g108 G k args K = some r) : ∃ o, CallOK Try.prog TAB.env 108 args o ∧ K o = some r := by
  unfold g108 at h
  split at h
  · rw [← f108_is] at h
    exact callF_sound (f := 108) TAB_chk MO hG Try.func108 (sg := S108) (by kernel_rfl) (by kernel_rfl) (la108 G k) h
  · cases h
end Go.Proofs.Ytblabbcmokldiaa.Vm
open Go Go.VM
set_option linter.unusedVariables false
set_option maxRecDepth 100000
set_option maxHeartbeats 4000000
namespace Go.Proofs.Ytblabbcmokldiaa.Vm
section
variable {R : Type} {G : ORC R} {k : Nat} {K : List V → Option R}
def PlaceS (G : ORC R) : Prop := ∀ (v n : Int) (K : List V → Option R), 0 < n → n ≤ 1099511627776 → W (fun o => ∃ x, o = [.int .i64 x] ∧ 0 ≤ x ∧ x < n) K (G 25 [.int .i64 v, .int .i64 n] K)
theorem place_ok : PlaceS (fun _ args (K : List V → Option R) => g25 G k args K) := by
  intro v n K h1 h2
  show W _ K (f25 G k v n K)
  unfold f25
  have ht := tmod_lt (v := v) h1
  refine W_not ?_
  refine W_beqI (fun h => by omega) (fun _ => ?_)
  refine W_dec (fun h => ?_) (fun h => ?_)
  · rw [wrap_id (by omega)]; exact W_ret ⟨_, rfl, by omega, by omega⟩
  · exact W_ret ⟨_, rfl, by omega, by omega⟩
def NextS (G : ORC R) : Prop := ∀ (n : Int) (L : List V) (i : Int) (K : List V → Option R), 0 < n → n ≤ 1099511627776 → RowS L i → W (fun o => ∃ x j, o = [.int .i64 x, .int .i64 j] ∧ 0 ≤ x ∧ x < n ∧ RowS L j) K (G 68 [.int .i64 n, .sl 1 L, .int .i64 i] K)
theorem next_ok (hP : PlaceS G) : NextS (fun _ args (K : List V → Option R) => g68 G k args K) := by
  intro n L i K h1 h2 hr
  obtain ⟨r1, r2, r3, r4⟩ := hr
  show W _ K (f68 G k n L i K)
  unfold f68
  have e1 : IntKind.i64.wrap (i + 1) = i + 1 := wrap_id (by omega)
  have e2 : IntKind.i64.wrap (i + 1 - 1) = i := by rw [wrap_id (by omega)]; omega
  rw [e1, e2]
  refine W_dec (fun h => ?_) (fun h => ?_)
  · exact W_ret ⟨_, _, rfl, by omega, by omega, r1, r2, r3, r4⟩
  · refine W_and (W_yes (by omega) (W_yes (by omega) ?_))
    refine W_nth (by omega) (fun v _ hv => ?_)
    obtain ⟨m, rfl, hm⟩ := r1 v hv
    refine W_aI ?_
    refine W_call (hP m n _ h1 h2) ?_
    rintro o ⟨x, rfl, x1, x2⟩
    refine W_uI (W_unNil ?_)
    exact W_ret ⟨_, _, rfl, x1, x2, r1, r2, by omega, by omega⟩
def EventS (G : ORC R) : Prop := ∀ (n : Int) (K : List V → Option R), W (fun o => ∃ s, o = [.str s] ∧ StrS s) K (G 107 [.int .i64 n] K)
theorem event_ok (hP : PlaceS G) : EventS (fun _ args (K : List V → Option R) => g107 G k args K) := by
  intro n K
  show W _ K (f107 G k n K)
  unfold f107
  refine W_call (hP n 8 _ (by omega) (by omega)) ?_
  rintro o ⟨x, rfl, x1, x2⟩
  refine W_uI (W_unNil ?_)
  refine W_and (W_yes (by omega) (W_yes (by omega) ?_))
  refine W_nth (by simp; omega) (fun v _ hv => ?_)
  simp only [List.mem_cons, List.not_mem_nil, or_false] at hv
  rcases hv with rfl | rfl | rfl | rfl | rfl | rfl | rfl | rfl <;> exact W_ret ⟨_, rfl, by unfold StrS; decide⟩
def PickS (G : ORC R) : Prop := ∀ (l : List V) (s : ByteArray) (L : List V) (i : Int) (m : Nat) (K : List V → Option R), StrsS m l → m ≤ 100000 → StrS s → RowS L i → W (fun o => ∃ t j, o = [.str t, .int .i64 j] ∧ StrS t ∧ (l = [] ∨ .str t ∈ l) ∧ RowS L j) K (G 109 [.sl 1 l, .str s, .sl 1 L, .int .i64 i] K)
theorem pick_ok (hN : NextS G) : PickS (fun _ args (K : List V → Option R) => g109 G k args K) := by
  intro l s L i m K hl hm hs hr
  show W _ K (f109 G k l s L i K)
  unfold f109
  have h1 := hl.1
  refine W_beqI (fun h => ?_) (fun h => ?_)
  · exact W_ret ⟨_, _, rfl, hs, .inl (List.eq_nil_of_length_eq_zero (by omega)), hr⟩
  · refine W_call (hN _ L i _ (by omega) (by omega) hr) ?_
    rintro o ⟨x, j, rfl, x1, x2, hr2⟩
    refine W_uI (W_uI (W_unNil ?_))
    refine W_and (W_yes (by omega) (W_yes (by omega) ?_))
    refine W_nth (by omega) (fun v _ hv => ?_)
    obtain ⟨t, rfl, ht⟩ := hl.2 v hv
    exact W_asStr (W_ret ⟨_, _, rfl, ht, .inr hv, hr2⟩)
theorem extract_size (s : ByteArray) (a b : Nat) : (ByteArray.extract s a b).size ≤ s.size := by
  rw [ByteArray.size_extract]; omega
theorem ext_dg {n : Int} (h1 : 0 ≤ n) (h2 : n < 10) : ByteArray.extract ⟨#[48, 49, 50, 51, 52, 53, 54, 55, 56, 57]⟩ n.toNat (n + 1).toNat = dg n.toNat := by
  have : n = 0 ∨ n = 1 ∨ n = 2 ∨ n = 3 ∨ n = 4 ∨ n = 5 ∨ n = 6 ∨ n = 7 ∨ n = 8 ∨ n = 9 := by omega
  rcases this with rfl | rfl | rfl | rfl | rfl | rfl | rfl | rfl | rfl | rfl <;> rfl
def DecS (d : Nat) (G : ORC R) : Prop := ∀ (n : Int) (K : List V → Option R), 0 ≤ n → n < 10 ^ d → W (fun o => o = [.str (decD d n.toNat)]) K (G 127 [.int .i64 n] K)
theorem dec_step {d : Nat} (hd : d ≤ 9) (hD : d = 0 ∨ DecS d G) : DecS (d + 1) (fun _ args (K : List V → Option R) => g127 G k args K) := by
  intro n K h1 h2
  have hp : (10 : Int) ^ (d + 1) = 10 ^ d * 10 := Int.pow_succ _ _
  have hb : (10 : Int) ^ d ≤ 10 ^ 9 := by
    have : (10 : Nat) ^ d ≤ 10 ^ 9 := Nat.pow_le_pow_right (by decide) hd
    exact_mod_cast this
  show W _ K (f127 G k n K)
  unfold f127
  refine W_no (by omega) (W_no (by omega) ?_)
  refine W_dec (fun h => ?_) (fun h => ?_)
  · rw [wrap_id (n := n + 1) (by omega)]
    have hsz : ByteArray.size ⟨#[48, 49, 50, 51, 52, 53, 54, 55, 56, 57]⟩ = 10 := by decide
    refine W_and (W_and (W_yes (by omega) (W_yes (by omega) (W_yes (by rw [hsz]; omega) ?_))))
    exact W_ret (by rw [ext_dg h1 h]; unfold decD; rw [if_pos (by omega)])
  · have ht : Int.tdiv n 10 = n / 10 := Int.tdiv_eq_ediv_of_nonneg h1
    have hm : Int.tmod n 10 = n % 10 := Int.tmod_eq_emod_of_nonneg h1
    rw [ht, hm]
    rw [wrap_id (n := n / 10) (by omega)]
    have hD' : DecS d G := by
      rcases hD with rfl | hD
      · simp at h2; omega
      · exact hD
    refine W_call (hD' (n / 10) _ (by omega) (by omega)) ?_
    rintro o rfl
    have hs := decD_size (d := d) (n := (n / 10).toNat)
    refine W_uS (W_unNil ?_)
    rw [wrap_id (n := n % 10 + 1) (by omega)]
    have hsz : ByteArray.size ⟨#[48, 49, 50, 51, 52, 53, 54, 55, 56, 57]⟩ = 10 := by decide
    have he := extract_size ⟨#[48, 49, 50, 51, 52, 53, 54, 55, 56, 57]⟩ (Int.toNat (n % 10)) (Int.toNat (n % 10 + 1))
    rw [hsz] at he
    refine W_and (W_and (W_yes (by omega) (W_yes (by omega) (W_yes (by rw [hsz]; omega) ?_))))
    refine W_yes (by omega) ?_
    refine W_ret ?_
    rw [ext_dg (n := n % 10) (by omega) (by omega)]
    show _ = [V.str (if n.toNat < 10 then dg n.toNat else decD d (n.toNat / 10) ++ dg (n.toNat % 10))]
    rw [if_neg (by omega), show (n / 10).toNat = n.toNat / 10 by omega, show (n % 10).toNat = n.toNat % 10 by omega]
/-- A small number's digits. -/
def DigS (G : ORC R) : Prop := ∀ (n : Int) (K : List V → Option R), 0 ≤ n → n < 1000 → W (fun o => o = [.str (digB n.toNat)]) K (G 105 [.int .i64 n] K)
theorem dig_ok (hD : DecS 3 G) : DigS (fun _ args (K : List V → Option R) => g105 G k args K) := by
  intro n K h1 h2
  show W _ K (f105 G k n K)
  unfold f105
  refine W_call (hD n _ h1 (by simpa using h2)) ?_
  rintro o rfl
  exact W_uS (W_unNil (W_ret rfl))
theorem strs_snoc {m : Nat} {l : List V} {s : ByteArray} (h : StrsS m l) (hs : StrS s) : StrsS (m + 1) (l ++ [.str s]) := by
  refine ⟨by have := h.1; simp; omega, fun v hv => ?_⟩
  rcases List.mem_append.1 hv with hv | hv
  · exact h.2 v hv
  · rw [List.mem_singleton.1 hv]; exact ⟨s, rfl, hs⟩
def NamesS (G : ORC R) : Prop := ∀ (s : ByteArray) (n : Int) (K : List V → Option R), s.size ≤ 10 → 0 ≤ n → n ≤ 100 → W (fun o => ∃ l, o = [.sl 1 l] ∧ StrsS 100 l) K (G 88 [.str s, .int .i64 n] K)
theorem names_loop (hD : DigS G) {Q : List V → Prop} {K : List V → Option R} {Ko : List V → Option R} {s : ByteArray} {n : Int} (hs : s.size ≤ 10) (hn : n ≤ 100) (hKo : ∀ l, StrsS 100 l → W Q K (Ko l)) :
    ∀ (j : Nat) (acc : List V) (i : Int), 0 ≤ i → i ≤ n → n - i < j → StrsS i.toNat acc → W Q K (l88_0g G k Ko j s n acc i)
  | 0, acc, i, h1, h2, h3, h4 => by omega
  | j + 1, acc, i, h1, h2, h3, h4 => by
    show W Q K (b88_0 G k (l88_0g G k Ko j) Ko s n acc i)
    unfold b88_0
    refine W_dec (fun h => ?_) (fun h => ?_)
    · refine W_call (hD i _ h1 (by omega)) ?_
      rintro o rfl
      have ht := decD_size (d := 3) (n := i.toNat)
      change (digB i.toNat).size ≤ 3 at ht
      refine W_uS (W_unNil ?_)
      have hl := h4.1
      refine W_yes (by omega) (W_yes (by omega) ?_)
      rw [wrap_id (n := i + 1) (by omega)]
      refine names_loop hD hs hn hKo j _ (i + 1) (by omega) (by omega) (by omega) ?_
      rw [show (i + 1).toNat = i.toNat + 1 by omega]
      exact strs_snoc h4 (by unfold StrS; rw [ByteArray.size_append]; omega)
    · exact hKo acc ⟨by have := h4.1; omega, h4.2⟩
theorem names_ok (hk : 1000 ≤ k) (hD : DigS G) : NamesS (fun _ args (K : List V → Option R) => g88 G k args K) := by
  intro s n K hs h1 h2
  show W _ K (f88 G k s n K)
  unfold f88 l88_0
  exact names_loop hD hs h2 (fun l hl => W_ret ⟨_, rfl, hl⟩) k [] 0 (by omega) h1 (by omega) ⟨by simp, by simp⟩
theorem named_snoc {m : Nat} {l : List V} {s : ByteArray} {n : Int} (h : NamedS m l) (hs : StrS s) (hn : I64 n) : NamedS (m + 1) (l ++ [.agg [.str s, .int .i64 n, .int .i64 0]]) := by
  refine ⟨by have := h.1; simp; omega, fun v hv => ?_⟩
  rcases List.mem_append.1 hv with hv | hv
  · exact h.2 v hv
  · rw [List.mem_singleton.1 hv]; exact ⟨s, n, rfl, hs, hn⟩
def NumdS (G : ORC R) : Prop := ∀ (l L : List V) (i : Int) (K : List V → Option R), StrsS 100 l → RowS L i → W (fun o => ∃ q j, o = [.sl 3 q, .int .i64 j] ∧ NamedS 100 q ∧ RowS L j) K (G 89 [.sl 1 l, .sl 1 L, .int .i64 i] K)
theorem named_loop (hN : NextS G) {Q : List V → Prop} {K : List V → Option R} {Ko : List V → List V → Int → Option R} {l L : List V} (hl : StrsS 100 l) (hKo : ∀ q at_, NamedS 100 q → RowS L at_ → W Q K (Ko q L at_)) :
    ∀ (j : Nat) (acc : List V) (i at_ : Int), 0 ≤ i → i ≤ (l.length : Int) → (l.length : Int) - i < j → NamedS i.toNat acc → RowS L at_ → W Q K (l89_0g G k Ko j l acc i L at_)
  | 0, acc, i, at_, h1, h2, h3, h4, h5 => by omega
  | j + 1, acc, i, at_, h1, h2, h3, h4, h5 => by
    show W Q K (b89_0 G k (l89_0g G k Ko j) Ko l acc i L at_)
    unfold b89_0
    have hll := hl.1
    refine W_dec (fun h => ?_) (fun h => ?_)
    · refine W_and (W_yes h1 (W_yes h ?_))
      refine W_nth (by omega) (fun v _ hv => ?_)
      obtain ⟨t, rfl, ht⟩ := hl.2 v hv
      refine W_asStr ?_
      refine W_call (hN 9 L at_ _ (by omega) (by omega) h5) ?_
      rintro o ⟨x, at2, rfl, x1, x2, h6⟩
      refine W_uI (W_uI (W_unNil ?_))
      have hla := h4.1
      refine W_yes (by omega) ?_
      rw [wrap_id (n := i + 1) (by omega), wrap_id (n := x - 4) (by omega)]
      refine named_loop hN hl hKo j _ (i + 1) at2 (by omega) (by omega) (by omega) ?_ h6
      rw [show (i + 1).toNat = i.toNat + 1 by omega]
      exact named_snoc h4 ht (by unfold I64; omega)
    · exact hKo acc at_ ⟨by have := h4.1; omega, h4.2⟩ h5
theorem named_ok (hk : 1000 ≤ k) (hN : NextS G) : NumdS (fun _ args (K : List V → Option R) => g89 G k args K) := by
  intro l L i K hl hr
  show W _ K (f89 G k l L i K)
  unfold f89 l89_0
  exact named_loop hN hl (fun q at_ hq hr => W_ret ⟨_, _, rfl, hq, hr⟩) k [] 0 i (by omega) (by omega) (by have := hl.1; omega) ⟨by simp, by simp⟩ hr
def PlainS (G : ORC R) : Prop := ∀ (l : List V) (K : List V → Option R), StrsS 100 l → W (fun o => ∃ q, o = [.sl 3 q] ∧ NamedS 100 q) K (G 90 [.sl 1 l] K)
theorem plain_loop {Q : List V → Prop} {K : List V → Option R} {Ko : List V → Option R} {l : List V} (hl : StrsS 100 l) (hKo : ∀ q, NamedS 100 q → W Q K (Ko q)) :
    ∀ (j : Nat) (acc : List V) (i : Int), 0 ≤ i → i ≤ (l.length : Int) → (l.length : Int) - i < j → NamedS i.toNat acc → W Q K (l90_0g G k Ko j l acc i)
  | 0, acc, i, h1, h2, h3, h4 => by omega
  | j + 1, acc, i, h1, h2, h3, h4 => by
    show W Q K (b90_0 G k (l90_0g G k Ko j) Ko l acc i)
    unfold b90_0
    have hll := hl.1
    refine W_dec (fun h => ?_) (fun h => ?_)
    · refine W_and (W_yes h1 (W_yes h ?_))
      refine W_nth (by omega) (fun v _ hv => ?_)
      obtain ⟨t, rfl, ht⟩ := hl.2 v hv
      refine W_asStr ?_
      have hla := h4.1
      refine W_yes (by omega) ?_
      rw [wrap_id (n := i + 1) (by omega)]
      refine plain_loop hl hKo j _ (i + 1) (by omega) (by omega) (by omega) ?_
      rw [show (i + 1).toNat = i.toNat + 1 by omega]
      exact named_snoc h4 ht (by unfold I64; omega)
    · exact hKo acc ⟨by have := h4.1; omega, h4.2⟩
theorem plain_ok (hk : 1000 ≤ k) : PlainS (fun _ args (K : List V → Option R) => g90 G k args K) := by
  intro l K hl
  show W _ K (f90 G k l K)
  unfold f90 l90_0
  exact plain_loop hl (fun q hq => W_ret ⟨_, rfl, hq⟩) k [] 0 (by omega) (by omega) (by have := hl.1; omega) ⟨by simp, by simp⟩
end
end Go.Proofs.Ytblabbcmokldiaa.Vm
open Go Go.VM
set_option linter.unusedVariables false
set_option maxRecDepth 100000
set_option maxHeartbeats 4000000
namespace Go.Proofs.Ytblabbcmokldiaa.Vm
section
variable {R : Type} {G : ORC R} {k : Nat} {K : List V → Option R}
def ExprOK (d : Nat) (G : ORC R) : Prop := ∀ (a b c s L : List V) (n i : Int) (K : List V → Option R), n = (d : Int) → StrsS 100 a → StrsS 100 s → RowS L i →
  W (fun o => ∃ e j, o = [e, .int .i64 j] ∧ ExprS (d + 1) e ∧ RowS L j) K (G 108 [.agg [.sl 1 a, .sl 1 b, .sl 1 c, .sl 1 s], .int .i64 n, .sl 1 L, .int .i64 i] K)
theorem expr_mk {d : Nat} {kind n : Int} {nm : ByteArray} {kids : List V} (h1 : I64 n) (h2 : StrS nm) (h3 : 1 ≤ kind ∧ kind ≤ 21) (h4 : kids.length ≤ 2) (h5 : ∀ e ∈ kids, ExprS d e) (h6 : kind ≤ 4 ∨ (kind ≤ 6 ∧ kids.length = 1) ∨ kids.length = 2) :
    ExprS (d + 1) (.agg [.int .i64 kind, .int .i64 n, .str nm, .sl 5 kids, .int .i64 0]) := ⟨kind, n, nm, kids, rfl, h1, h2, h3.1, h3.2, h4, h5, h6⟩
theorem expr_at {d : Nat} {kind n x : Int} {nm : ByteArray} {kids : List V} (h : ExprS d (.agg [.int .i64 kind, .int .i64 n, .str nm, .sl 5 kids, .int .i64 x])) : x = 0 := by
  cases d with
  | zero => exact h.elim
  | succ d => obtain ⟨_, _, _, _, e, _⟩ := h; injection e with e; simp at e; exact e.2.2.2.2
theorem one_mem {d : Nat} {a : V} (h : ExprS d a) : ∀ e ∈ [a], ExprS d e := fun e he => by rw [List.mem_singleton.1 he]; exact h
theorem two_mem {d : Nat} {a b : V} (h : ExprS d a) (h' : ExprS d b) : ∀ e ∈ [a, b], ExprS d e := fun e he => by
  simp only [List.mem_cons, List.not_mem_nil, or_false] at he
  rcases he with rfl | rfl
  · exact h
  · exact h'
theorem strs0 : StrS ⟨#[]⟩ := by unfold StrS; decide
theorem expr_ok {d : Nat} (hd : d ≤ 2) (hN : NextS G) (hPk : PickS G) (hE : ∀ d', d = d' + 1 → ExprOK d' G) : ExprOK d (fun _ args (K : List V → Option R) => g108 G k args K) := by
  intro a b c s L n i K hn ha hs hr
  show W _ K (f108 G k a b c s n L i K)
  unfold f108
  unfold NextS at hN; unfold PickS at hPk; unfold ExprOK at hE
  have la := ha.1
  have lss := hs.1
  have hE' : n ≠ 0 → ∃ d', d = d' + 1 := fun h => ⟨d - 1, by omega⟩
  have hEn : ∀ d', d = d' + 1 → IntKind.i64.wrap (n - 1) = (d' : Int) := fun d' h => by rw [wrap_id (by omega)]; omega
  refine W_call (hN _ _ _ _ (by omega) (by omega) hr) ?_
  rintro o ⟨x, i1, rfl, x1, x2, hr1⟩
  have ht := tmod_lt (v := x) (n := 6) (by omega)
  by_cases hn0 : n = 0
  · clear hE' hEn hE
    repeat' (first
      | with_reducible (first | (refine W_uI ?_) | (refine W_uS ?_) | (refine W_uL ?_) | (refine W_uA ?_) | (refine W_uB ?_) | (refine W_aI ?_) | (refine W_aL ?_) | (refine W_ca3 ?_) | (refine W_ce3 ?_) | (refine W_ca4 ?_) | (refine W_ce4 ?_) | (refine W_ca5 ?_) | (refine W_ce5 ?_) | (refine W_ca6 ?_) | (refine W_ce6 ?_) | (refine W_ca7 ?_) | (refine W_ce7 ?_) | (refine W_ca8 ?_) | (refine W_ce8 ?_) | (refine W_unCons ?_) | (refine W_unNil ?_) | (refine W_asInt ?_) | (refine W_asStr ?_) | (refine W_asSl ?_) | (refine W_asAgg ?_) | (refine W_kd ?_) | (refine W_z ?_))
      | ((with_reducible (refine W_call (hN _ _ _ _ ?_ ?_ (by assumption)) ?_)); omega; omega; rintro _ ⟨_, _, rfl, _, _, _⟩)
      | ((with_reducible (refine W_call (hPk _ _ _ _ 100 _ (by assumption) ?_ strs0 (by assumption)) ?_)); omega; rintro _ ⟨_, _, rfl, _, _, _⟩)
      | (with_reducible (refine W_and ?_)) | ((with_reducible (refine W_yes ?_ ?_)); omega) | ((with_reducible (refine W_no ?_ ?_)); omega) | ((with_reducible (refine W_eqY ?_ ?_)); omega) | ((with_reducible (refine W_eqN ?_ ?_)); omega)
      | (with_reducible (refine W_dec (fun _ => ?_) (fun _ => ?_))) | (with_reducible (refine W_beqI (fun _ => ?_) (fun _ => ?_)))
      | ((with_reducible (refine W_nth ?_ (fun v _ hv => ?_))); (simp; omega); simp only [List.mem_cons, List.not_mem_nil, or_false] at hv; rcases hv with rfl | rfl | rfl | rfl | rfl | rfl)
      | (refine W_ret ⟨_, _, rfl, expr_mk (by unfold I64; omega) (by first | assumption | exact strs0) ⟨by omega, by omega⟩ (by simp) (by simp) (by omega), by assumption⟩))
  · obtain ⟨d', rfl⟩ := hE' hn0
    have hEn := hEn d' rfl
    have hE := hE d' rfl
    clear hE'
    repeat' (first
      | with_reducible (first | (refine W_uI ?_) | (refine W_uS ?_) | (refine W_uL ?_) | (refine W_uA ?_) | (refine W_uB ?_) | (refine W_aI ?_) | (refine W_aL ?_) | (refine W_ca3 ?_) | (refine W_ce3 ?_) | (refine W_ca4 ?_) | (refine W_ce4 ?_) | (refine W_ca5 ?_) | (refine W_ce5 ?_) | (refine W_ca6 ?_) | (refine W_ce6 ?_) | (refine W_ca7 ?_) | (refine W_ce7 ?_) | (refine W_ca8 ?_) | (refine W_ce8 ?_) | (refine W_unCons ?_) | (refine W_unNil ?_) | (refine W_asInt ?_) | (refine W_asStr ?_) | (refine W_asSl ?_) | (refine W_asAgg ?_) | (refine W_kd ?_) | (refine W_z ?_))
      | ((with_reducible (refine W_call (hN _ _ _ _ ?_ ?_ (by assumption)) ?_)); omega; omega; rintro _ ⟨_, _, rfl, _, _, _⟩)
      | ((with_reducible (refine W_call (hPk _ _ _ _ 100 _ (by assumption) ?_ strs0 (by assumption)) ?_)); omega; rintro _ ⟨_, _, rfl, _, _, _⟩)
      | ((with_reducible (refine W_call (hE _ _ _ _ _ _ _ _ hEn (by assumption) (by assumption) (by assumption)) ?_)); rintro _ ⟨_, _, rfl, he, _⟩; have he2 := he; obtain ⟨_, _, _, _, rfl, _, _, _, _, _, _, _⟩ := he)
      | (with_reducible (refine W_and ?_)) | ((with_reducible (refine W_yes ?_ ?_)); omega) | ((with_reducible (refine W_no ?_ ?_)); omega) | ((with_reducible (refine W_eqY ?_ ?_)); omega) | ((with_reducible (refine W_eqN ?_ ?_)); omega)
      | (with_reducible (refine W_dec (fun _ => ?_) (fun _ => ?_))) | (with_reducible (refine W_beqI (fun _ => ?_) (fun _ => ?_)))
      | ((with_reducible (refine W_nth ?_ (fun v _ hv => ?_))); (simp; omega); simp only [List.mem_cons, List.not_mem_nil, or_false] at hv; rcases hv with rfl | rfl | rfl | rfl | rfl | rfl)
      | (refine W_ret ⟨_, _, rfl, expr_mk (by unfold I64; omega) (by first | assumption | exact strs0) ⟨by first | omega | (rw [wrap_id (by omega)]; omega), by first | omega | (rw [wrap_id (by omega)]; omega)⟩ (by simp) (by first | exact two_mem (by assumption) (by assumption) | exact one_mem (by assumption) | simp) (by first | exact .inr (.inr rfl) | exact .inr (.inl ⟨by rw [wrap_id (by omega)]; omega, rfl⟩) | omega), by assumption⟩))
end
end Go.Proofs.Ytblabbcmokldiaa.Vm
open Go Go.VM
set_option linter.unusedVariables false
set_option maxRecDepth 100000
set_option maxHeartbeats 4000000
namespace Go.Proofs.Ytblabbcmokldiaa.Vm
/-! ### cotillion/cotillionref37.Block: function 106 -/
def P106_0h : Pat := { tmps := unds [.stat (.one (.ptr 0 0) .pt), .undef, .var (.int .i64) .pr, .undef, .stat (.one (.ptr 5 0) .pt), .undef, .undef, .var (.sl 8) (.own true), .var (.int .i64) .pr] 148 [], boxes := nons [some [.var (.sl 1) .ro true, .var (.int .i64) .pr false], none, none, none, none, some [.var (.sl 1) .ro false, .var (.sl 1) .ro false, .var (.sl 1) .ro false, .var (.sl 1) .ro false]] 152 [] }
def P106_0x : Pat := { tmps := unds [] 7 (unds [.var (.sl 8) (.own true)] 149 []), boxes := nons [some [.var (.sl 1) .ro true, .var (.int .i64) .pr false]] 157 [] }
def b106_0 {R : Type} (G : ORC R) (k : Nat) (X : Int → List V → Int → List V → Int → List V → List V → List V → List V → Option R) (Ko : List V → List V → Int → Option R) (xi13 : Int) (xl14 : List V) (xi15 : Int) (xl16 : List V) (xi17 : Int) (xl18 xl19 : List V) (xl20 xl21 : List V) : Option R :=
  (bif (decide (xi15 > 0)) then (G 68 [(.int .i64 10), (.sl 1 xl16), (.int .i64 xi17)] fun o22 => (uI .i64 o22 fun n24 r23 => (uI .i64 r23 fun n26 r25 => (unNil r25 (G 108 [(.agg [(.sl 1 xl18), (.sl 1 xl19), (.sl 1 xl20), (.sl 1 xl21)]), (.int .i64 2), (.sl 1 xl16), (.int .i64 n26)] fun o27 => (uA o27 fun l29 r28 => (uI .i64 l29 fun n31 r30 => (uI .i64 r30 fun n33 r32 => (uS r32 fun s35 r34 => (uL 5 r34 fun l37 r36 => (uI .i64 r36 fun n39 r38 => (unNil r38 (uI .i64 r28 fun n41 r40 => (unNil r40 (bif (decide (n24 < 3)) then (bif (decide (((List.length xl18 : Nat) : Int) > 0)) then (G 109 [(.sl 1 xl18), (.str ⟨#[]⟩), (.sl 1 xl16), (.int .i64 n41)] fun o42 => (uS o42 fun s44 r43 => (uI .i64 r43 fun n46 r45 => (unNil r45 (bif (decide (List.length xl14 + 1 ≤ 1073741824)) then (X xi13 (xl14 ++ [(.agg [(.int .i64 1), (.str s44), (.str ⟨#[]⟩), (.sl 5 [(.agg [(.int .i64 n31), (.int .i64 n33), (.str s35), (.sl 5 l37), (.int .i64 n39)])]), (.int .i64 0), (.sl 8 []), (.sl 8 []), (.int .i64 0)])]) (IntKind.i64.wrap (xi15 - 1)) xl16 n46 xl18 xl19 xl20 xl21) else none))))) else (bif (n24 == 3) then (G 68 [(.int .i64 8), (.sl 1 xl16), (.int .i64 n41)] fun o47 => (uI .i64 o47 fun n49 r48 => (uI .i64 r48 fun n51 r50 => (unNil r50 (G 107 [(.int .i64 n49)] fun o52 => (uS o52 fun s54 r53 => (unNil r53 (G 68 [(.int .i64 2), (.sl 1 xl16), (.int .i64 n51)] fun o55 => (uI .i64 o55 fun n57 r56 => (uI .i64 r56 fun n59 r58 => (unNil r58 (bif ((decide (0 ≤ n57)) && (decide (n57 ≤ 1))) then (bif (decide (List.length xl14 + 1 ≤ 1073741824)) then (X xi13 (xl14 ++ [(.agg [(.int .i64 2), (.str ⟨#[]⟩), (.str s54), (.sl 5 (List.take (Int.toNat n57) [(.agg [(.int .i64 n31), (.int .i64 n33), (.str s35), (.sl 5 l37), (.int .i64 n39)])])), (.int .i64 0), (.sl 8 []), (.sl 8 []), (.int .i64 0)])]) (IntKind.i64.wrap (xi15 - 1)) xl16 n59 xl18 xl19 xl20 xl21) else none) else none)))))))))))) else (bif (decide (n24 < 7)) then (bif (decide (((List.length xl19 : Nat) : Int) > 0)) then (G 109 [(.sl 1 xl19), (.str ⟨#[]⟩), (.sl 1 xl16), (.int .i64 n41)] fun o60 => (uS o60 fun s62 r61 => (uI .i64 r61 fun n64 r63 => (unNil r63 (G 68 [(.int .i64 3), (.sl 1 xl16), (.int .i64 n64)] fun o65 => (uI .i64 o65 fun n67 r66 => (uI .i64 r66 fun n69 r68 => (unNil r68 (G 107 [(.int .i64 n67)] fun o70 => (uS o70 fun s72 r71 => (unNil r71 (G 68 [(.int .i64 2), (.sl 1 xl16), (.int .i64 n69)] fun o73 => (uI .i64 o73 fun n75 r74 => (uI .i64 r74 fun n77 r76 => (unNil r76 (bif ((decide (0 ≤ n75)) && (decide (n75 ≤ 1))) then (bif (decide (List.length xl14 + 1 ≤ 1073741824)) then (X xi13 (xl14 ++ [(.agg [(.int .i64 3), (.str s62), (.str s72), (.sl 5 (List.take (Int.toNat n75) [(.agg [(.int .i64 n31), (.int .i64 n33), (.str s35), (.sl 5 l37), (.int .i64 n39)])])), (.int .i64 0), (.sl 8 []), (.sl 8 []), (.int .i64 0)])]) (IntKind.i64.wrap (xi15 - 1)) xl16 n77 xl18 xl19 xl20 xl21) else none) else none)))))))))))))))) else (bif (n24 == 7) then (bif (decide (((List.length xl20 : Nat) : Int) > 0)) then (G 109 [(.sl 1 xl20), (.str ⟨#[]⟩), (.sl 1 xl16), (.int .i64 n41)] fun o78 => (uS o78 fun s80 r79 => (uI .i64 r79 fun n82 r81 => (unNil r81 (G 68 [(.int .i64 3), (.sl 1 xl16), (.int .i64 n82)] fun o83 => (uI .i64 o83 fun n85 r84 => (uI .i64 r84 fun n87 r86 => (unNil r86 (bif (decide (List.length xl14 + 1 ≤ 1073741824)) then (X xi13 (xl14 ++ [(.agg [(.int .i64 4), (.str s80), (.str ⟨#[]⟩), (.sl 5 [(.agg [(.int .i64 1), (.int .i64 (IntKind.i64.wrap (1 + n85))), (.str ⟨#[]⟩), (.sl 5 []), (.int .i64 0)])]), (.int .i64 0), (.sl 8 []), (.sl 8 []), (.int .i64 0)])]) (IntKind.i64.wrap (xi15 - 1)) xl16 n87 xl18 xl19 xl20 xl21) else none))))))))) else (bif (n24 == 8) then (bif (decide (((List.length xl20 : Nat) : Int) > 0)) then (G 109 [(.sl 1 xl20), (.str ⟨#[]⟩), (.sl 1 xl16), (.int .i64 n41)] fun o88 => (uS o88 fun s90 r89 => (uI .i64 r89 fun n92 r91 => (unNil r91 (bif (decide (List.length xl14 + 1 ≤ 1073741824)) then (X xi13 (xl14 ++ [(.agg [(.int .i64 5), (.str s90), (.str ⟨#[]⟩), (.sl 5 []), (.int .i64 0), (.sl 8 []), (.sl 8 []), (.int .i64 0)])]) (IntKind.i64.wrap (xi15 - 1)) xl16 n92 xl18 xl19 xl20 xl21) else none))))) else (bif (decide (xi13 > 0)) then (bif ((Int.tmod n24 2) == 0) then (G 106 [(.agg [(.sl 1 xl18), (.sl 1 xl19), (.sl 1 xl20), (.sl 1 xl21)]), (.int .i64 (IntKind.i64.wrap (xi13 - 1))), (.sl 1 xl16), (.int .i64 n41)] fun o93 => (uL 8 o93 fun l95 r94 => (uI .i64 r94 fun n97 r96 => (unNil r96 (G 106 [(.agg [(.sl 1 xl18), (.sl 1 xl19), (.sl 1 xl20), (.sl 1 xl21)]), (.int .i64 (IntKind.i64.wrap (xi13 - 1))), (.sl 1 xl16), (.int .i64 n97)] fun o98 => (uL 8 o98 fun l100 r99 => (uI .i64 r99 fun n102 r101 => (unNil r101 (bif (decide (List.length xl14 + 1 ≤ 1073741824)) then (X xi13 (xl14 ++ [(.agg [(.int .i64 6), (.str ⟨#[]⟩), (.str ⟨#[]⟩), (.sl 5 [(.agg [(.int .i64 n31), (.int .i64 n33), (.str s35), (.sl 5 l37), (.int .i64 n39)])]), (.int .i64 0), (.sl 8 l95), (.sl 8 l100), (.int .i64 0)])]) (IntKind.i64.wrap (xi15 - 1)) xl16 n102 xl18 xl19 xl20 xl21) else none))))))))) else (bif (decide (xi13 > 0)) then (G 68 [(.int .i64 4), (.sl 1 xl16), (.int .i64 n41)] fun o103 => (uI .i64 o103 fun n105 r104 => (uI .i64 r104 fun n107 r106 => (unNil r106 (G 106 [(.agg [(.sl 1 xl18), (.sl 1 xl19), (.sl 1 xl20), (.sl 1 xl21)]), (.int .i64 (IntKind.i64.wrap (xi13 - 1))), (.sl 1 xl16), (.int .i64 n107)] fun o108 => (uL 8 o108 fun l110 r109 => (uI .i64 r109 fun n112 r111 => (unNil r111 (bif (decide (List.length xl14 + 1 ≤ 1073741824)) then (X xi13 (xl14 ++ [(.agg [(.int .i64 7), (.str ⟨#[]⟩), (.str ⟨#[]⟩), (.sl 5 []), (.int .i64 (IntKind.i64.wrap (1 + n105))), (.sl 8 l110), (.sl 8 []), (.int .i64 0)])]) (IntKind.i64.wrap (xi15 - 1)) xl16 n112 xl18 xl19 xl20 xl21) else none))))))))) else (X xi13 xl14 (IntKind.i64.wrap (xi15 - 1)) xl16 n41 xl18 xl19 xl20 xl21))) else (bif (decide (xi13 > 0)) then (G 68 [(.int .i64 4), (.sl 1 xl16), (.int .i64 n41)] fun o113 => (uI .i64 o113 fun n115 r114 => (uI .i64 r114 fun n117 r116 => (unNil r116 (G 106 [(.agg [(.sl 1 xl18), (.sl 1 xl19), (.sl 1 xl20), (.sl 1 xl21)]), (.int .i64 (IntKind.i64.wrap (xi13 - 1))), (.sl 1 xl16), (.int .i64 n117)] fun o118 => (uL 8 o118 fun l120 r119 => (uI .i64 r119 fun n122 r121 => (unNil r121 (bif (decide (List.length xl14 + 1 ≤ 1073741824)) then (X xi13 (xl14 ++ [(.agg [(.int .i64 7), (.str ⟨#[]⟩), (.str ⟨#[]⟩), (.sl 5 []), (.int .i64 (IntKind.i64.wrap (1 + n115))), (.sl 8 l120), (.sl 8 []), (.int .i64 0)])]) (IntKind.i64.wrap (xi15 - 1)) xl16 n122 xl18 xl19 xl20 xl21) else none))))))))) else (X xi13 xl14 (IntKind.i64.wrap (xi15 - 1)) xl16 n41 xl18 xl19 xl20 xl21)))) else (bif (decide (xi13 > 0)) then (bif ((Int.tmod n24 2) == 0) then (G 106 [(.agg [(.sl 1 xl18), (.sl 1 xl19), (.sl 1 xl20), (.sl 1 xl21)]), (.int .i64 (IntKind.i64.wrap (xi13 - 1))), (.sl 1 xl16), (.int .i64 n41)] fun o123 => (uL 8 o123 fun l125 r124 => (uI .i64 r124 fun n127 r126 => (unNil r126 (G 106 [(.agg [(.sl 1 xl18), (.sl 1 xl19), (.sl 1 xl20), (.sl 1 xl21)]), (.int .i64 (IntKind.i64.wrap (xi13 - 1))), (.sl 1 xl16), (.int .i64 n127)] fun o128 => (uL 8 o128 fun l130 r129 => (uI .i64 r129 fun n132 r131 => (unNil r131 (bif (decide (List.length xl14 + 1 ≤ 1073741824)) then (X xi13 (xl14 ++ [(.agg [(.int .i64 6), (.str ⟨#[]⟩), (.str ⟨#[]⟩), (.sl 5 [(.agg [(.int .i64 n31), (.int .i64 n33), (.str s35), (.sl 5 l37), (.int .i64 n39)])]), (.int .i64 0), (.sl 8 l125), (.sl 8 l130), (.int .i64 0)])]) (IntKind.i64.wrap (xi15 - 1)) xl16 n132 xl18 xl19 xl20 xl21) else none))))))))) else (bif (decide (xi13 > 0)) then (G 68 [(.int .i64 4), (.sl 1 xl16), (.int .i64 n41)] fun o133 => (uI .i64 o133 fun n135 r134 => (uI .i64 r134 fun n137 r136 => (unNil r136 (G 106 [(.agg [(.sl 1 xl18), (.sl 1 xl19), (.sl 1 xl20), (.sl 1 xl21)]), (.int .i64 (IntKind.i64.wrap (xi13 - 1))), (.sl 1 xl16), (.int .i64 n137)] fun o138 => (uL 8 o138 fun l140 r139 => (uI .i64 r139 fun n142 r141 => (unNil r141 (bif (decide (List.length xl14 + 1 ≤ 1073741824)) then (X xi13 (xl14 ++ [(.agg [(.int .i64 7), (.str ⟨#[]⟩), (.str ⟨#[]⟩), (.sl 5 []), (.int .i64 (IntKind.i64.wrap (1 + n135))), (.sl 8 l140), (.sl 8 []), (.int .i64 0)])]) (IntKind.i64.wrap (xi15 - 1)) xl16 n142 xl18 xl19 xl20 xl21) else none))))))))) else (X xi13 xl14 (IntKind.i64.wrap (xi15 - 1)) xl16 n41 xl18 xl19 xl20 xl21))) else (bif (decide (xi13 > 0)) then (G 68 [(.int .i64 4), (.sl 1 xl16), (.int .i64 n41)] fun o143 => (uI .i64 o143 fun n145 r144 => (uI .i64 r144 fun n147 r146 => (unNil r146 (G 106 [(.agg [(.sl 1 xl18), (.sl 1 xl19), (.sl 1 xl20), (.sl 1 xl21)]), (.int .i64 (IntKind.i64.wrap (xi13 - 1))), (.sl 1 xl16), (.int .i64 n147)] fun o148 => (uL 8 o148 fun l150 r149 => (uI .i64 r149 fun n152 r151 => (unNil r151 (bif (decide (List.length xl14 + 1 ≤ 1073741824)) then (X xi13 (xl14 ++ [(.agg [(.int .i64 7), (.str ⟨#[]⟩), (.str ⟨#[]⟩), (.sl 5 []), (.int .i64 (IntKind.i64.wrap (1 + n145))), (.sl 8 l150), (.sl 8 []), (.int .i64 0)])]) (IntKind.i64.wrap (xi15 - 1)) xl16 n152 xl18 xl19 xl20 xl21) else none))))))))) else (X xi13 xl14 (IntKind.i64.wrap (xi15 - 1)) xl16 n41 xl18 xl19 xl20 xl21))))) else (bif (n24 == 8) then (bif (decide (((List.length xl20 : Nat) : Int) > 0)) then (G 109 [(.sl 1 xl20), (.str ⟨#[]⟩), (.sl 1 xl16), (.int .i64 n41)] fun o153 => (uS o153 fun s155 r154 => (uI .i64 r154 fun n157 r156 => (unNil r156 (bif (decide (List.length xl14 + 1 ≤ 1073741824)) then (X xi13 (xl14 ++ [(.agg [(.int .i64 5), (.str s155), (.str ⟨#[]⟩), (.sl 5 []), (.int .i64 0), (.sl 8 []), (.sl 8 []), (.int .i64 0)])]) (IntKind.i64.wrap (xi15 - 1)) xl16 n157 xl18 xl19 xl20 xl21) else none))))) else (bif (decide (xi13 > 0)) then (bif ((Int.tmod n24 2) == 0) then (G 106 [(.agg [(.sl 1 xl18), (.sl 1 xl19), (.sl 1 xl20), (.sl 1 xl21)]), (.int .i64 (IntKind.i64.wrap (xi13 - 1))), (.sl 1 xl16), (.int .i64 n41)] fun o158 => (uL 8 o158 fun l160 r159 => (uI .i64 r159 fun n162 r161 => (unNil r161 (G 106 [(.agg [(.sl 1 xl18), (.sl 1 xl19), (.sl 1 xl20), (.sl 1 xl21)]), (.int .i64 (IntKind.i64.wrap (xi13 - 1))), (.sl 1 xl16), (.int .i64 n162)] fun o163 => (uL 8 o163 fun l165 r164 => (uI .i64 r164 fun n167 r166 => (unNil r166 (bif (decide (List.length xl14 + 1 ≤ 1073741824)) then (X xi13 (xl14 ++ [(.agg [(.int .i64 6), (.str ⟨#[]⟩), (.str ⟨#[]⟩), (.sl 5 [(.agg [(.int .i64 n31), (.int .i64 n33), (.str s35), (.sl 5 l37), (.int .i64 n39)])]), (.int .i64 0), (.sl 8 l160), (.sl 8 l165), (.int .i64 0)])]) (IntKind.i64.wrap (xi15 - 1)) xl16 n167 xl18 xl19 xl20 xl21) else none))))))))) else (bif (decide (xi13 > 0)) then (G 68 [(.int .i64 4), (.sl 1 xl16), (.int .i64 n41)] fun o168 => (uI .i64 o168 fun n170 r169 => (uI .i64 r169 fun n172 r171 => (unNil r171 (G 106 [(.agg [(.sl 1 xl18), (.sl 1 xl19), (.sl 1 xl20), (.sl 1 xl21)]), (.int .i64 (IntKind.i64.wrap (xi13 - 1))), (.sl 1 xl16), (.int .i64 n172)] fun o173 => (uL 8 o173 fun l175 r174 => (uI .i64 r174 fun n177 r176 => (unNil r176 (bif (decide (List.length xl14 + 1 ≤ 1073741824)) then (X xi13 (xl14 ++ [(.agg [(.int .i64 7), (.str ⟨#[]⟩), (.str ⟨#[]⟩), (.sl 5 []), (.int .i64 (IntKind.i64.wrap (1 + n170))), (.sl 8 l175), (.sl 8 []), (.int .i64 0)])]) (IntKind.i64.wrap (xi15 - 1)) xl16 n177 xl18 xl19 xl20 xl21) else none))))))))) else (X xi13 xl14 (IntKind.i64.wrap (xi15 - 1)) xl16 n41 xl18 xl19 xl20 xl21))) else (bif (decide (xi13 > 0)) then (G 68 [(.int .i64 4), (.sl 1 xl16), (.int .i64 n41)] fun o178 => (uI .i64 o178 fun n180 r179 => (uI .i64 r179 fun n182 r181 => (unNil r181 (G 106 [(.agg [(.sl 1 xl18), (.sl 1 xl19), (.sl 1 xl20), (.sl 1 xl21)]), (.int .i64 (IntKind.i64.wrap (xi13 - 1))), (.sl 1 xl16), (.int .i64 n182)] fun o183 => (uL 8 o183 fun l185 r184 => (uI .i64 r184 fun n187 r186 => (unNil r186 (bif (decide (List.length xl14 + 1 ≤ 1073741824)) then (X xi13 (xl14 ++ [(.agg [(.int .i64 7), (.str ⟨#[]⟩), (.str ⟨#[]⟩), (.sl 5 []), (.int .i64 (IntKind.i64.wrap (1 + n180))), (.sl 8 l185), (.sl 8 []), (.int .i64 0)])]) (IntKind.i64.wrap (xi15 - 1)) xl16 n187 xl18 xl19 xl20 xl21) else none))))))))) else (X xi13 xl14 (IntKind.i64.wrap (xi15 - 1)) xl16 n41 xl18 xl19 xl20 xl21)))) else (bif (decide (xi13 > 0)) then (bif ((Int.tmod n24 2) == 0) then (G 106 [(.agg [(.sl 1 xl18), (.sl 1 xl19), (.sl 1 xl20), (.sl 1 xl21)]), (.int .i64 (IntKind.i64.wrap (xi13 - 1))), (.sl 1 xl16), (.int .i64 n41)] fun o188 => (uL 8 o188 fun l190 r189 => (uI .i64 r189 fun n192 r191 => (unNil r191 (G 106 [(.agg [(.sl 1 xl18), (.sl 1 xl19), (.sl 1 xl20), (.sl 1 xl21)]), (.int .i64 (IntKind.i64.wrap (xi13 - 1))), (.sl 1 xl16), (.int .i64 n192)] fun o193 => (uL 8 o193 fun l195 r194 => (uI .i64 r194 fun n197 r196 => (unNil r196 (bif (decide (List.length xl14 + 1 ≤ 1073741824)) then (X xi13 (xl14 ++ [(.agg [(.int .i64 6), (.str ⟨#[]⟩), (.str ⟨#[]⟩), (.sl 5 [(.agg [(.int .i64 n31), (.int .i64 n33), (.str s35), (.sl 5 l37), (.int .i64 n39)])]), (.int .i64 0), (.sl 8 l190), (.sl 8 l195), (.int .i64 0)])]) (IntKind.i64.wrap (xi15 - 1)) xl16 n197 xl18 xl19 xl20 xl21) else none))))))))) else (bif (decide (xi13 > 0)) then (G 68 [(.int .i64 4), (.sl 1 xl16), (.int .i64 n41)] fun o198 => (uI .i64 o198 fun n200 r199 => (uI .i64 r199 fun n202 r201 => (unNil r201 (G 106 [(.agg [(.sl 1 xl18), (.sl 1 xl19), (.sl 1 xl20), (.sl 1 xl21)]), (.int .i64 (IntKind.i64.wrap (xi13 - 1))), (.sl 1 xl16), (.int .i64 n202)] fun o203 => (uL 8 o203 fun l205 r204 => (uI .i64 r204 fun n207 r206 => (unNil r206 (bif (decide (List.length xl14 + 1 ≤ 1073741824)) then (X xi13 (xl14 ++ [(.agg [(.int .i64 7), (.str ⟨#[]⟩), (.str ⟨#[]⟩), (.sl 5 []), (.int .i64 (IntKind.i64.wrap (1 + n200))), (.sl 8 l205), (.sl 8 []), (.int .i64 0)])]) (IntKind.i64.wrap (xi15 - 1)) xl16 n207 xl18 xl19 xl20 xl21) else none))))))))) else (X xi13 xl14 (IntKind.i64.wrap (xi15 - 1)) xl16 n41 xl18 xl19 xl20 xl21))) else (bif (decide (xi13 > 0)) then (G 68 [(.int .i64 4), (.sl 1 xl16), (.int .i64 n41)] fun o208 => (uI .i64 o208 fun n210 r209 => (uI .i64 r209 fun n212 r211 => (unNil r211 (G 106 [(.agg [(.sl 1 xl18), (.sl 1 xl19), (.sl 1 xl20), (.sl 1 xl21)]), (.int .i64 (IntKind.i64.wrap (xi13 - 1))), (.sl 1 xl16), (.int .i64 n212)] fun o213 => (uL 8 o213 fun l215 r214 => (uI .i64 r214 fun n217 r216 => (unNil r216 (bif (decide (List.length xl14 + 1 ≤ 1073741824)) then (X xi13 (xl14 ++ [(.agg [(.int .i64 7), (.str ⟨#[]⟩), (.str ⟨#[]⟩), (.sl 5 []), (.int .i64 (IntKind.i64.wrap (1 + n210))), (.sl 8 l215), (.sl 8 []), (.int .i64 0)])]) (IntKind.i64.wrap (xi15 - 1)) xl16 n217 xl18 xl19 xl20 xl21) else none))))))))) else (X xi13 xl14 (IntKind.i64.wrap (xi15 - 1)) xl16 n41 xl18 xl19 xl20 xl21)))))) else (bif (n24 == 7) then (bif (decide (((List.length xl20 : Nat) : Int) > 0)) then (G 109 [(.sl 1 xl20), (.str ⟨#[]⟩), (.sl 1 xl16), (.int .i64 n41)] fun o218 => (uS o218 fun s220 r219 => (uI .i64 r219 fun n222 r221 => (unNil r221 (G 68 [(.int .i64 3), (.sl 1 xl16), (.int .i64 n222)] fun o223 => (uI .i64 o223 fun n225 r224 => (uI .i64 r224 fun n227 r226 => (unNil r226 (bif (decide (List.length xl14 + 1 ≤ 1073741824)) then (X xi13 (xl14 ++ [(.agg [(.int .i64 4), (.str s220), (.str ⟨#[]⟩), (.sl 5 [(.agg [(.int .i64 1), (.int .i64 (IntKind.i64.wrap (1 + n225))), (.str ⟨#[]⟩), (.sl 5 []), (.int .i64 0)])]), (.int .i64 0), (.sl 8 []), (.sl 8 []), (.int .i64 0)])]) (IntKind.i64.wrap (xi15 - 1)) xl16 n227 xl18 xl19 xl20 xl21) else none))))))))) else (bif (n24 == 8) then (bif (decide (((List.length xl20 : Nat) : Int) > 0)) then (G 109 [(.sl 1 xl20), (.str ⟨#[]⟩), (.sl 1 xl16), (.int .i64 n41)] fun o228 => (uS o228 fun s230 r229 => (uI .i64 r229 fun n232 r231 => (unNil r231 (bif (decide (List.length xl14 + 1 ≤ 1073741824)) then (X xi13 (xl14 ++ [(.agg [(.int .i64 5), (.str s230), (.str ⟨#[]⟩), (.sl 5 []), (.int .i64 0), (.sl 8 []), (.sl 8 []), (.int .i64 0)])]) (IntKind.i64.wrap (xi15 - 1)) xl16 n232 xl18 xl19 xl20 xl21) else none))))) else (bif (decide (xi13 > 0)) then (bif ((Int.tmod n24 2) == 0) then (G 106 [(.agg [(.sl 1 xl18), (.sl 1 xl19), (.sl 1 xl20), (.sl 1 xl21)]), (.int .i64 (IntKind.i64.wrap (xi13 - 1))), (.sl 1 xl16), (.int .i64 n41)] fun o233 => (uL 8 o233 fun l235 r234 => (uI .i64 r234 fun n237 r236 => (unNil r236 (G 106 [(.agg [(.sl 1 xl18), (.sl 1 xl19), (.sl 1 xl20), (.sl 1 xl21)]), (.int .i64 (IntKind.i64.wrap (xi13 - 1))), (.sl 1 xl16), (.int .i64 n237)] fun o238 => (uL 8 o238 fun l240 r239 => (uI .i64 r239 fun n242 r241 => (unNil r241 (bif (decide (List.length xl14 + 1 ≤ 1073741824)) then (X xi13 (xl14 ++ [(.agg [(.int .i64 6), (.str ⟨#[]⟩), (.str ⟨#[]⟩), (.sl 5 [(.agg [(.int .i64 n31), (.int .i64 n33), (.str s35), (.sl 5 l37), (.int .i64 n39)])]), (.int .i64 0), (.sl 8 l235), (.sl 8 l240), (.int .i64 0)])]) (IntKind.i64.wrap (xi15 - 1)) xl16 n242 xl18 xl19 xl20 xl21) else none))))))))) else (bif (decide (xi13 > 0)) then (G 68 [(.int .i64 4), (.sl 1 xl16), (.int .i64 n41)] fun o243 => (uI .i64 o243 fun n245 r244 => (uI .i64 r244 fun n247 r246 => (unNil r246 (G 106 [(.agg [(.sl 1 xl18), (.sl 1 xl19), (.sl 1 xl20), (.sl 1 xl21)]), (.int .i64 (IntKind.i64.wrap (xi13 - 1))), (.sl 1 xl16), (.int .i64 n247)] fun o248 => (uL 8 o248 fun l250 r249 => (uI .i64 r249 fun n252 r251 => (unNil r251 (bif (decide (List.length xl14 + 1 ≤ 1073741824)) then (X xi13 (xl14 ++ [(.agg [(.int .i64 7), (.str ⟨#[]⟩), (.str ⟨#[]⟩), (.sl 5 []), (.int .i64 (IntKind.i64.wrap (1 + n245))), (.sl 8 l250), (.sl 8 []), (.int .i64 0)])]) (IntKind.i64.wrap (xi15 - 1)) xl16 n252 xl18 xl19 xl20 xl21) else none))))))))) else (X xi13 xl14 (IntKind.i64.wrap (xi15 - 1)) xl16 n41 xl18 xl19 xl20 xl21))) else (bif (decide (xi13 > 0)) then (G 68 [(.int .i64 4), (.sl 1 xl16), (.int .i64 n41)] fun o253 => (uI .i64 o253 fun n255 r254 => (uI .i64 r254 fun n257 r256 => (unNil r256 (G 106 [(.agg [(.sl 1 xl18), (.sl 1 xl19), (.sl 1 xl20), (.sl 1 xl21)]), (.int .i64 (IntKind.i64.wrap (xi13 - 1))), (.sl 1 xl16), (.int .i64 n257)] fun o258 => (uL 8 o258 fun l260 r259 => (uI .i64 r259 fun n262 r261 => (unNil r261 (bif (decide (List.length xl14 + 1 ≤ 1073741824)) then (X xi13 (xl14 ++ [(.agg [(.int .i64 7), (.str ⟨#[]⟩), (.str ⟨#[]⟩), (.sl 5 []), (.int .i64 (IntKind.i64.wrap (1 + n255))), (.sl 8 l260), (.sl 8 []), (.int .i64 0)])]) (IntKind.i64.wrap (xi15 - 1)) xl16 n262 xl18 xl19 xl20 xl21) else none))))))))) else (X xi13 xl14 (IntKind.i64.wrap (xi15 - 1)) xl16 n41 xl18 xl19 xl20 xl21)))) else (bif (decide (xi13 > 0)) then (bif ((Int.tmod n24 2) == 0) then (G 106 [(.agg [(.sl 1 xl18), (.sl 1 xl19), (.sl 1 xl20), (.sl 1 xl21)]), (.int .i64 (IntKind.i64.wrap (xi13 - 1))), (.sl 1 xl16), (.int .i64 n41)] fun o263 => (uL 8 o263 fun l265 r264 => (uI .i64 r264 fun n267 r266 => (unNil r266 (G 106 [(.agg [(.sl 1 xl18), (.sl 1 xl19), (.sl 1 xl20), (.sl 1 xl21)]), (.int .i64 (IntKind.i64.wrap (xi13 - 1))), (.sl 1 xl16), (.int .i64 n267)] fun o268 => (uL 8 o268 fun l270 r269 => (uI .i64 r269 fun n272 r271 => (unNil r271 (bif (decide (List.length xl14 + 1 ≤ 1073741824)) then (X xi13 (xl14 ++ [(.agg [(.int .i64 6), (.str ⟨#[]⟩), (.str ⟨#[]⟩), (.sl 5 [(.agg [(.int .i64 n31), (.int .i64 n33), (.str s35), (.sl 5 l37), (.int .i64 n39)])]), (.int .i64 0), (.sl 8 l265), (.sl 8 l270), (.int .i64 0)])]) (IntKind.i64.wrap (xi15 - 1)) xl16 n272 xl18 xl19 xl20 xl21) else none))))))))) else (bif (decide (xi13 > 0)) then (G 68 [(.int .i64 4), (.sl 1 xl16), (.int .i64 n41)] fun o273 => (uI .i64 o273 fun n275 r274 => (uI .i64 r274 fun n277 r276 => (unNil r276 (G 106 [(.agg [(.sl 1 xl18), (.sl 1 xl19), (.sl 1 xl20), (.sl 1 xl21)]), (.int .i64 (IntKind.i64.wrap (xi13 - 1))), (.sl 1 xl16), (.int .i64 n277)] fun o278 => (uL 8 o278 fun l280 r279 => (uI .i64 r279 fun n282 r281 => (unNil r281 (bif (decide (List.length xl14 + 1 ≤ 1073741824)) then (X xi13 (xl14 ++ [(.agg [(.int .i64 7), (.str ⟨#[]⟩), (.str ⟨#[]⟩), (.sl 5 []), (.int .i64 (IntKind.i64.wrap (1 + n275))), (.sl 8 l280), (.sl 8 []), (.int .i64 0)])]) (IntKind.i64.wrap (xi15 - 1)) xl16 n282 xl18 xl19 xl20 xl21) else none))))))))) else (X xi13 xl14 (IntKind.i64.wrap (xi15 - 1)) xl16 n41 xl18 xl19 xl20 xl21))) else (bif (decide (xi13 > 0)) then (G 68 [(.int .i64 4), (.sl 1 xl16), (.int .i64 n41)] fun o283 => (uI .i64 o283 fun n285 r284 => (uI .i64 r284 fun n287 r286 => (unNil r286 (G 106 [(.agg [(.sl 1 xl18), (.sl 1 xl19), (.sl 1 xl20), (.sl 1 xl21)]), (.int .i64 (IntKind.i64.wrap (xi13 - 1))), (.sl 1 xl16), (.int .i64 n287)] fun o288 => (uL 8 o288 fun l290 r289 => (uI .i64 r289 fun n292 r291 => (unNil r291 (bif (decide (List.length xl14 + 1 ≤ 1073741824)) then (X xi13 (xl14 ++ [(.agg [(.int .i64 7), (.str ⟨#[]⟩), (.str ⟨#[]⟩), (.sl 5 []), (.int .i64 (IntKind.i64.wrap (1 + n285))), (.sl 8 l290), (.sl 8 []), (.int .i64 0)])]) (IntKind.i64.wrap (xi15 - 1)) xl16 n292 xl18 xl19 xl20 xl21) else none))))))))) else (X xi13 xl14 (IntKind.i64.wrap (xi15 - 1)) xl16 n41 xl18 xl19 xl20 xl21))))) else (bif (n24 == 8) then (bif (decide (((List.length xl20 : Nat) : Int) > 0)) then (G 109 [(.sl 1 xl20), (.str ⟨#[]⟩), (.sl 1 xl16), (.int .i64 n41)] fun o293 => (uS o293 fun s295 r294 => (uI .i64 r294 fun n297 r296 => (unNil r296 (bif (decide (List.length xl14 + 1 ≤ 1073741824)) then (X xi13 (xl14 ++ [(.agg [(.int .i64 5), (.str s295), (.str ⟨#[]⟩), (.sl 5 []), (.int .i64 0), (.sl 8 []), (.sl 8 []), (.int .i64 0)])]) (IntKind.i64.wrap (xi15 - 1)) xl16 n297 xl18 xl19 xl20 xl21) else none))))) else (bif (decide (xi13 > 0)) then (bif ((Int.tmod n24 2) == 0) then (G 106 [(.agg [(.sl 1 xl18), (.sl 1 xl19), (.sl 1 xl20), (.sl 1 xl21)]), (.int .i64 (IntKind.i64.wrap (xi13 - 1))), (.sl 1 xl16), (.int .i64 n41)] fun o298 => (uL 8 o298 fun l300 r299 => (uI .i64 r299 fun n302 r301 => (unNil r301 (G 106 [(.agg [(.sl 1 xl18), (.sl 1 xl19), (.sl 1 xl20), (.sl 1 xl21)]), (.int .i64 (IntKind.i64.wrap (xi13 - 1))), (.sl 1 xl16), (.int .i64 n302)] fun o303 => (uL 8 o303 fun l305 r304 => (uI .i64 r304 fun n307 r306 => (unNil r306 (bif (decide (List.length xl14 + 1 ≤ 1073741824)) then (X xi13 (xl14 ++ [(.agg [(.int .i64 6), (.str ⟨#[]⟩), (.str ⟨#[]⟩), (.sl 5 [(.agg [(.int .i64 n31), (.int .i64 n33), (.str s35), (.sl 5 l37), (.int .i64 n39)])]), (.int .i64 0), (.sl 8 l300), (.sl 8 l305), (.int .i64 0)])]) (IntKind.i64.wrap (xi15 - 1)) xl16 n307 xl18 xl19 xl20 xl21) else none))))))))) else (bif (decide (xi13 > 0)) then (G 68 [(.int .i64 4), (.sl 1 xl16), (.int .i64 n41)] fun o308 => (uI .i64 o308 fun n310 r309 => (uI .i64 r309 fun n312 r311 => (unNil r311 (G 106 [(.agg [(.sl 1 xl18), (.sl 1 xl19), (.sl 1 xl20), (.sl 1 xl21)]), (.int .i64 (IntKind.i64.wrap (xi13 - 1))), (.sl 1 xl16), (.int .i64 n312)] fun o313 => (uL 8 o313 fun l315 r314 => (uI .i64 r314 fun n317 r316 => (unNil r316 (bif (decide (List.length xl14 + 1 ≤ 1073741824)) then (X xi13 (xl14 ++ [(.agg [(.int .i64 7), (.str ⟨#[]⟩), (.str ⟨#[]⟩), (.sl 5 []), (.int .i64 (IntKind.i64.wrap (1 + n310))), (.sl 8 l315), (.sl 8 []), (.int .i64 0)])]) (IntKind.i64.wrap (xi15 - 1)) xl16 n317 xl18 xl19 xl20 xl21) else none))))))))) else (X xi13 xl14 (IntKind.i64.wrap (xi15 - 1)) xl16 n41 xl18 xl19 xl20 xl21))) else (bif (decide (xi13 > 0)) then (G 68 [(.int .i64 4), (.sl 1 xl16), (.int .i64 n41)] fun o318 => (uI .i64 o318 fun n320 r319 => (uI .i64 r319 fun n322 r321 => (unNil r321 (G 106 [(.agg [(.sl 1 xl18), (.sl 1 xl19), (.sl 1 xl20), (.sl 1 xl21)]), (.int .i64 (IntKind.i64.wrap (xi13 - 1))), (.sl 1 xl16), (.int .i64 n322)] fun o323 => (uL 8 o323 fun l325 r324 => (uI .i64 r324 fun n327 r326 => (unNil r326 (bif (decide (List.length xl14 + 1 ≤ 1073741824)) then (X xi13 (xl14 ++ [(.agg [(.int .i64 7), (.str ⟨#[]⟩), (.str ⟨#[]⟩), (.sl 5 []), (.int .i64 (IntKind.i64.wrap (1 + n320))), (.sl 8 l325), (.sl 8 []), (.int .i64 0)])]) (IntKind.i64.wrap (xi15 - 1)) xl16 n327 xl18 xl19 xl20 xl21) else none))))))))) else (X xi13 xl14 (IntKind.i64.wrap (xi15 - 1)) xl16 n41 xl18 xl19 xl20 xl21)))) else (bif (decide (xi13 > 0)) then (bif ((Int.tmod n24 2) == 0) then (G 106 [(.agg [(.sl 1 xl18), (.sl 1 xl19), (.sl 1 xl20), (.sl 1 xl21)]), (.int .i64 (IntKind.i64.wrap (xi13 - 1))), (.sl 1 xl16), (.int .i64 n41)] fun o328 => (uL 8 o328 fun l330 r329 => (uI .i64 r329 fun n332 r331 => (unNil r331 (G 106 [(.agg [(.sl 1 xl18), (.sl 1 xl19), (.sl 1 xl20), (.sl 1 xl21)]), (.int .i64 (IntKind.i64.wrap (xi13 - 1))), (.sl 1 xl16), (.int .i64 n332)] fun o333 => (uL 8 o333 fun l335 r334 => (uI .i64 r334 fun n337 r336 => (unNil r336 (bif (decide (List.length xl14 + 1 ≤ 1073741824)) then (X xi13 (xl14 ++ [(.agg [(.int .i64 6), (.str ⟨#[]⟩), (.str ⟨#[]⟩), (.sl 5 [(.agg [(.int .i64 n31), (.int .i64 n33), (.str s35), (.sl 5 l37), (.int .i64 n39)])]), (.int .i64 0), (.sl 8 l330), (.sl 8 l335), (.int .i64 0)])]) (IntKind.i64.wrap (xi15 - 1)) xl16 n337 xl18 xl19 xl20 xl21) else none))))))))) else (bif (decide (xi13 > 0)) then (G 68 [(.int .i64 4), (.sl 1 xl16), (.int .i64 n41)] fun o338 => (uI .i64 o338 fun n340 r339 => (uI .i64 r339 fun n342 r341 => (unNil r341 (G 106 [(.agg [(.sl 1 xl18), (.sl 1 xl19), (.sl 1 xl20), (.sl 1 xl21)]), (.int .i64 (IntKind.i64.wrap (xi13 - 1))), (.sl 1 xl16), (.int .i64 n342)] fun o343 => (uL 8 o343 fun l345 r344 => (uI .i64 r344 fun n347 r346 => (unNil r346 (bif (decide (List.length xl14 + 1 ≤ 1073741824)) then (X xi13 (xl14 ++ [(.agg [(.int .i64 7), (.str ⟨#[]⟩), (.str ⟨#[]⟩), (.sl 5 []), (.int .i64 (IntKind.i64.wrap (1 + n340))), (.sl 8 l345), (.sl 8 []), (.int .i64 0)])]) (IntKind.i64.wrap (xi15 - 1)) xl16 n347 xl18 xl19 xl20 xl21) else none))))))))) else (X xi13 xl14 (IntKind.i64.wrap (xi15 - 1)) xl16 n41 xl18 xl19 xl20 xl21))) else (bif (decide (xi13 > 0)) then (G 68 [(.int .i64 4), (.sl 1 xl16), (.int .i64 n41)] fun o348 => (uI .i64 o348 fun n350 r349 => (uI .i64 r349 fun n352 r351 => (unNil r351 (G 106 [(.agg [(.sl 1 xl18), (.sl 1 xl19), (.sl 1 xl20), (.sl 1 xl21)]), (.int .i64 (IntKind.i64.wrap (xi13 - 1))), (.sl 1 xl16), (.int .i64 n352)] fun o353 => (uL 8 o353 fun l355 r354 => (uI .i64 r354 fun n357 r356 => (unNil r356 (bif (decide (List.length xl14 + 1 ≤ 1073741824)) then (X xi13 (xl14 ++ [(.agg [(.int .i64 7), (.str ⟨#[]⟩), (.str ⟨#[]⟩), (.sl 5 []), (.int .i64 (IntKind.i64.wrap (1 + n350))), (.sl 8 l355), (.sl 8 []), (.int .i64 0)])]) (IntKind.i64.wrap (xi15 - 1)) xl16 n357 xl18 xl19 xl20 xl21) else none))))))))) else (X xi13 xl14 (IntKind.i64.wrap (xi15 - 1)) xl16 n41 xl18 xl19 xl20 xl21)))))))) else (bif (n24 == 3) then (G 68 [(.int .i64 8), (.sl 1 xl16), (.int .i64 n41)] fun o358 => (uI .i64 o358 fun n360 r359 => (uI .i64 r359 fun n362 r361 => (unNil r361 (G 107 [(.int .i64 n360)] fun o363 => (uS o363 fun s365 r364 => (unNil r364 (G 68 [(.int .i64 2), (.sl 1 xl16), (.int .i64 n362)] fun o366 => (uI .i64 o366 fun n368 r367 => (uI .i64 r367 fun n370 r369 => (unNil r369 (bif ((decide (0 ≤ n368)) && (decide (n368 ≤ 1))) then (bif (decide (List.length xl14 + 1 ≤ 1073741824)) then (X xi13 (xl14 ++ [(.agg [(.int .i64 2), (.str ⟨#[]⟩), (.str s365), (.sl 5 (List.take (Int.toNat n368) [(.agg [(.int .i64 n31), (.int .i64 n33), (.str s35), (.sl 5 l37), (.int .i64 n39)])])), (.int .i64 0), (.sl 8 []), (.sl 8 []), (.int .i64 0)])]) (IntKind.i64.wrap (xi15 - 1)) xl16 n370 xl18 xl19 xl20 xl21) else none) else none)))))))))))) else (bif (decide (n24 < 7)) then (bif (decide (((List.length xl19 : Nat) : Int) > 0)) then (G 109 [(.sl 1 xl19), (.str ⟨#[]⟩), (.sl 1 xl16), (.int .i64 n41)] fun o371 => (uS o371 fun s373 r372 => (uI .i64 r372 fun n375 r374 => (unNil r374 (G 68 [(.int .i64 3), (.sl 1 xl16), (.int .i64 n375)] fun o376 => (uI .i64 o376 fun n378 r377 => (uI .i64 r377 fun n380 r379 => (unNil r379 (G 107 [(.int .i64 n378)] fun o381 => (uS o381 fun s383 r382 => (unNil r382 (G 68 [(.int .i64 2), (.sl 1 xl16), (.int .i64 n380)] fun o384 => (uI .i64 o384 fun n386 r385 => (uI .i64 r385 fun n388 r387 => (unNil r387 (bif ((decide (0 ≤ n386)) && (decide (n386 ≤ 1))) then (bif (decide (List.length xl14 + 1 ≤ 1073741824)) then (X xi13 (xl14 ++ [(.agg [(.int .i64 3), (.str s373), (.str s383), (.sl 5 (List.take (Int.toNat n386) [(.agg [(.int .i64 n31), (.int .i64 n33), (.str s35), (.sl 5 l37), (.int .i64 n39)])])), (.int .i64 0), (.sl 8 []), (.sl 8 []), (.int .i64 0)])]) (IntKind.i64.wrap (xi15 - 1)) xl16 n388 xl18 xl19 xl20 xl21) else none) else none)))))))))))))))) else (bif (n24 == 7) then (bif (decide (((List.length xl20 : Nat) : Int) > 0)) then (G 109 [(.sl 1 xl20), (.str ⟨#[]⟩), (.sl 1 xl16), (.int .i64 n41)] fun o389 => (uS o389 fun s391 r390 => (uI .i64 r390 fun n393 r392 => (unNil r392 (G 68 [(.int .i64 3), (.sl 1 xl16), (.int .i64 n393)] fun o394 => (uI .i64 o394 fun n396 r395 => (uI .i64 r395 fun n398 r397 => (unNil r397 (bif (decide (List.length xl14 + 1 ≤ 1073741824)) then (X xi13 (xl14 ++ [(.agg [(.int .i64 4), (.str s391), (.str ⟨#[]⟩), (.sl 5 [(.agg [(.int .i64 1), (.int .i64 (IntKind.i64.wrap (1 + n396))), (.str ⟨#[]⟩), (.sl 5 []), (.int .i64 0)])]), (.int .i64 0), (.sl 8 []), (.sl 8 []), (.int .i64 0)])]) (IntKind.i64.wrap (xi15 - 1)) xl16 n398 xl18 xl19 xl20 xl21) else none))))))))) else (bif (n24 == 8) then (bif (decide (((List.length xl20 : Nat) : Int) > 0)) then (G 109 [(.sl 1 xl20), (.str ⟨#[]⟩), (.sl 1 xl16), (.int .i64 n41)] fun o399 => (uS o399 fun s401 r400 => (uI .i64 r400 fun n403 r402 => (unNil r402 (bif (decide (List.length xl14 + 1 ≤ 1073741824)) then (X xi13 (xl14 ++ [(.agg [(.int .i64 5), (.str s401), (.str ⟨#[]⟩), (.sl 5 []), (.int .i64 0), (.sl 8 []), (.sl 8 []), (.int .i64 0)])]) (IntKind.i64.wrap (xi15 - 1)) xl16 n403 xl18 xl19 xl20 xl21) else none))))) else (bif (decide (xi13 > 0)) then (bif ((Int.tmod n24 2) == 0) then (G 106 [(.agg [(.sl 1 xl18), (.sl 1 xl19), (.sl 1 xl20), (.sl 1 xl21)]), (.int .i64 (IntKind.i64.wrap (xi13 - 1))), (.sl 1 xl16), (.int .i64 n41)] fun o404 => (uL 8 o404 fun l406 r405 => (uI .i64 r405 fun n408 r407 => (unNil r407 (G 106 [(.agg [(.sl 1 xl18), (.sl 1 xl19), (.sl 1 xl20), (.sl 1 xl21)]), (.int .i64 (IntKind.i64.wrap (xi13 - 1))), (.sl 1 xl16), (.int .i64 n408)] fun o409 => (uL 8 o409 fun l411 r410 => (uI .i64 r410 fun n413 r412 => (unNil r412 (bif (decide (List.length xl14 + 1 ≤ 1073741824)) then (X xi13 (xl14 ++ [(.agg [(.int .i64 6), (.str ⟨#[]⟩), (.str ⟨#[]⟩), (.sl 5 [(.agg [(.int .i64 n31), (.int .i64 n33), (.str s35), (.sl 5 l37), (.int .i64 n39)])]), (.int .i64 0), (.sl 8 l406), (.sl 8 l411), (.int .i64 0)])]) (IntKind.i64.wrap (xi15 - 1)) xl16 n413 xl18 xl19 xl20 xl21) else none))))))))) else (bif (decide (xi13 > 0)) then (G 68 [(.int .i64 4), (.sl 1 xl16), (.int .i64 n41)] fun o414 => (uI .i64 o414 fun n416 r415 => (uI .i64 r415 fun n418 r417 => (unNil r417 (G 106 [(.agg [(.sl 1 xl18), (.sl 1 xl19), (.sl 1 xl20), (.sl 1 xl21)]), (.int .i64 (IntKind.i64.wrap (xi13 - 1))), (.sl 1 xl16), (.int .i64 n418)] fun o419 => (uL 8 o419 fun l421 r420 => (uI .i64 r420 fun n423 r422 => (unNil r422 (bif (decide (List.length xl14 + 1 ≤ 1073741824)) then (X xi13 (xl14 ++ [(.agg [(.int .i64 7), (.str ⟨#[]⟩), (.str ⟨#[]⟩), (.sl 5 []), (.int .i64 (IntKind.i64.wrap (1 + n416))), (.sl 8 l421), (.sl 8 []), (.int .i64 0)])]) (IntKind.i64.wrap (xi15 - 1)) xl16 n423 xl18 xl19 xl20 xl21) else none))))))))) else (X xi13 xl14 (IntKind.i64.wrap (xi15 - 1)) xl16 n41 xl18 xl19 xl20 xl21))) else (bif (decide (xi13 > 0)) then (G 68 [(.int .i64 4), (.sl 1 xl16), (.int .i64 n41)] fun o424 => (uI .i64 o424 fun n426 r425 => (uI .i64 r425 fun n428 r427 => (unNil r427 (G 106 [(.agg [(.sl 1 xl18), (.sl 1 xl19), (.sl 1 xl20), (.sl 1 xl21)]), (.int .i64 (IntKind.i64.wrap (xi13 - 1))), (.sl 1 xl16), (.int .i64 n428)] fun o429 => (uL 8 o429 fun l431 r430 => (uI .i64 r430 fun n433 r432 => (unNil r432 (bif (decide (List.length xl14 + 1 ≤ 1073741824)) then (X xi13 (xl14 ++ [(.agg [(.int .i64 7), (.str ⟨#[]⟩), (.str ⟨#[]⟩), (.sl 5 []), (.int .i64 (IntKind.i64.wrap (1 + n426))), (.sl 8 l431), (.sl 8 []), (.int .i64 0)])]) (IntKind.i64.wrap (xi15 - 1)) xl16 n433 xl18 xl19 xl20 xl21) else none))))))))) else (X xi13 xl14 (IntKind.i64.wrap (xi15 - 1)) xl16 n41 xl18 xl19 xl20 xl21)))) else (bif (decide (xi13 > 0)) then (bif ((Int.tmod n24 2) == 0) then (G 106 [(.agg [(.sl 1 xl18), (.sl 1 xl19), (.sl 1 xl20), (.sl 1 xl21)]), (.int .i64 (IntKind.i64.wrap (xi13 - 1))), (.sl 1 xl16), (.int .i64 n41)] fun o434 => (uL 8 o434 fun l436 r435 => (uI .i64 r435 fun n438 r437 => (unNil r437 (G 106 [(.agg [(.sl 1 xl18), (.sl 1 xl19), (.sl 1 xl20), (.sl 1 xl21)]), (.int .i64 (IntKind.i64.wrap (xi13 - 1))), (.sl 1 xl16), (.int .i64 n438)] fun o439 => (uL 8 o439 fun l441 r440 => (uI .i64 r440 fun n443 r442 => (unNil r442 (bif (decide (List.length xl14 + 1 ≤ 1073741824)) then (X xi13 (xl14 ++ [(.agg [(.int .i64 6), (.str ⟨#[]⟩), (.str ⟨#[]⟩), (.sl 5 [(.agg [(.int .i64 n31), (.int .i64 n33), (.str s35), (.sl 5 l37), (.int .i64 n39)])]), (.int .i64 0), (.sl 8 l436), (.sl 8 l441), (.int .i64 0)])]) (IntKind.i64.wrap (xi15 - 1)) xl16 n443 xl18 xl19 xl20 xl21) else none))))))))) else (bif (decide (xi13 > 0)) then (G 68 [(.int .i64 4), (.sl 1 xl16), (.int .i64 n41)] fun o444 => (uI .i64 o444 fun n446 r445 => (uI .i64 r445 fun n448 r447 => (unNil r447 (G 106 [(.agg [(.sl 1 xl18), (.sl 1 xl19), (.sl 1 xl20), (.sl 1 xl21)]), (.int .i64 (IntKind.i64.wrap (xi13 - 1))), (.sl 1 xl16), (.int .i64 n448)] fun o449 => (uL 8 o449 fun l451 r450 => (uI .i64 r450 fun n453 r452 => (unNil r452 (bif (decide (List.length xl14 + 1 ≤ 1073741824)) then (X xi13 (xl14 ++ [(.agg [(.int .i64 7), (.str ⟨#[]⟩), (.str ⟨#[]⟩), (.sl 5 []), (.int .i64 (IntKind.i64.wrap (1 + n446))), (.sl 8 l451), (.sl 8 []), (.int .i64 0)])]) (IntKind.i64.wrap (xi15 - 1)) xl16 n453 xl18 xl19 xl20 xl21) else none))))))))) else (X xi13 xl14 (IntKind.i64.wrap (xi15 - 1)) xl16 n41 xl18 xl19 xl20 xl21))) else (bif (decide (xi13 > 0)) then (G 68 [(.int .i64 4), (.sl 1 xl16), (.int .i64 n41)] fun o454 => (uI .i64 o454 fun n456 r455 => (uI .i64 r455 fun n458 r457 => (unNil r457 (G 106 [(.agg [(.sl 1 xl18), (.sl 1 xl19), (.sl 1 xl20), (.sl 1 xl21)]), (.int .i64 (IntKind.i64.wrap (xi13 - 1))), (.sl 1 xl16), (.int .i64 n458)] fun o459 => (uL 8 o459 fun l461 r460 => (uI .i64 r460 fun n463 r462 => (unNil r462 (bif (decide (List.length xl14 + 1 ≤ 1073741824)) then (X xi13 (xl14 ++ [(.agg [(.int .i64 7), (.str ⟨#[]⟩), (.str ⟨#[]⟩), (.sl 5 []), (.int .i64 (IntKind.i64.wrap (1 + n456))), (.sl 8 l461), (.sl 8 []), (.int .i64 0)])]) (IntKind.i64.wrap (xi15 - 1)) xl16 n463 xl18 xl19 xl20 xl21) else none))))))))) else (X xi13 xl14 (IntKind.i64.wrap (xi15 - 1)) xl16 n41 xl18 xl19 xl20 xl21))))) else (bif (n24 == 8) then (bif (decide (((List.length xl20 : Nat) : Int) > 0)) then (G 109 [(.sl 1 xl20), (.str ⟨#[]⟩), (.sl 1 xl16), (.int .i64 n41)] fun o464 => (uS o464 fun s466 r465 => (uI .i64 r465 fun n468 r467 => (unNil r467 (bif (decide (List.length xl14 + 1 ≤ 1073741824)) then (X xi13 (xl14 ++ [(.agg [(.int .i64 5), (.str s466), (.str ⟨#[]⟩), (.sl 5 []), (.int .i64 0), (.sl 8 []), (.sl 8 []), (.int .i64 0)])]) (IntKind.i64.wrap (xi15 - 1)) xl16 n468 xl18 xl19 xl20 xl21) else none))))) else (bif (decide (xi13 > 0)) then (bif ((Int.tmod n24 2) == 0) then (G 106 [(.agg [(.sl 1 xl18), (.sl 1 xl19), (.sl 1 xl20), (.sl 1 xl21)]), (.int .i64 (IntKind.i64.wrap (xi13 - 1))), (.sl 1 xl16), (.int .i64 n41)] fun o469 => (uL 8 o469 fun l471 r470 => (uI .i64 r470 fun n473 r472 => (unNil r472 (G 106 [(.agg [(.sl 1 xl18), (.sl 1 xl19), (.sl 1 xl20), (.sl 1 xl21)]), (.int .i64 (IntKind.i64.wrap (xi13 - 1))), (.sl 1 xl16), (.int .i64 n473)] fun o474 => (uL 8 o474 fun l476 r475 => (uI .i64 r475 fun n478 r477 => (unNil r477 (bif (decide (List.length xl14 + 1 ≤ 1073741824)) then (X xi13 (xl14 ++ [(.agg [(.int .i64 6), (.str ⟨#[]⟩), (.str ⟨#[]⟩), (.sl 5 [(.agg [(.int .i64 n31), (.int .i64 n33), (.str s35), (.sl 5 l37), (.int .i64 n39)])]), (.int .i64 0), (.sl 8 l471), (.sl 8 l476), (.int .i64 0)])]) (IntKind.i64.wrap (xi15 - 1)) xl16 n478 xl18 xl19 xl20 xl21) else none))))))))) else (bif (decide (xi13 > 0)) then (G 68 [(.int .i64 4), (.sl 1 xl16), (.int .i64 n41)] fun o479 => (uI .i64 o479 fun n481 r480 => (uI .i64 r480 fun n483 r482 => (unNil r482 (G 106 [(.agg [(.sl 1 xl18), (.sl 1 xl19), (.sl 1 xl20), (.sl 1 xl21)]), (.int .i64 (IntKind.i64.wrap (xi13 - 1))), (.sl 1 xl16), (.int .i64 n483)] fun o484 => (uL 8 o484 fun l486 r485 => (uI .i64 r485 fun n488 r487 => (unNil r487 (bif (decide (List.length xl14 + 1 ≤ 1073741824)) then (X xi13 (xl14 ++ [(.agg [(.int .i64 7), (.str ⟨#[]⟩), (.str ⟨#[]⟩), (.sl 5 []), (.int .i64 (IntKind.i64.wrap (1 + n481))), (.sl 8 l486), (.sl 8 []), (.int .i64 0)])]) (IntKind.i64.wrap (xi15 - 1)) xl16 n488 xl18 xl19 xl20 xl21) else none))))))))) else (X xi13 xl14 (IntKind.i64.wrap (xi15 - 1)) xl16 n41 xl18 xl19 xl20 xl21))) else (bif (decide (xi13 > 0)) then (G 68 [(.int .i64 4), (.sl 1 xl16), (.int .i64 n41)] fun o489 => (uI .i64 o489 fun n491 r490 => (uI .i64 r490 fun n493 r492 => (unNil r492 (G 106 [(.agg [(.sl 1 xl18), (.sl 1 xl19), (.sl 1 xl20), (.sl 1 xl21)]), (.int .i64 (IntKind.i64.wrap (xi13 - 1))), (.sl 1 xl16), (.int .i64 n493)] fun o494 => (uL 8 o494 fun l496 r495 => (uI .i64 r495 fun n498 r497 => (unNil r497 (bif (decide (List.length xl14 + 1 ≤ 1073741824)) then (X xi13 (xl14 ++ [(.agg [(.int .i64 7), (.str ⟨#[]⟩), (.str ⟨#[]⟩), (.sl 5 []), (.int .i64 (IntKind.i64.wrap (1 + n491))), (.sl 8 l496), (.sl 8 []), (.int .i64 0)])]) (IntKind.i64.wrap (xi15 - 1)) xl16 n498 xl18 xl19 xl20 xl21) else none))))))))) else (X xi13 xl14 (IntKind.i64.wrap (xi15 - 1)) xl16 n41 xl18 xl19 xl20 xl21)))) else (bif (decide (xi13 > 0)) then (bif ((Int.tmod n24 2) == 0) then (G 106 [(.agg [(.sl 1 xl18), (.sl 1 xl19), (.sl 1 xl20), (.sl 1 xl21)]), (.int .i64 (IntKind.i64.wrap (xi13 - 1))), (.sl 1 xl16), (.int .i64 n41)] fun o499 => (uL 8 o499 fun l501 r500 => (uI .i64 r500 fun n503 r502 => (unNil r502 (G 106 [(.agg [(.sl 1 xl18), (.sl 1 xl19), (.sl 1 xl20), (.sl 1 xl21)]), (.int .i64 (IntKind.i64.wrap (xi13 - 1))), (.sl 1 xl16), (.int .i64 n503)] fun o504 => (uL 8 o504 fun l506 r505 => (uI .i64 r505 fun n508 r507 => (unNil r507 (bif (decide (List.length xl14 + 1 ≤ 1073741824)) then (X xi13 (xl14 ++ [(.agg [(.int .i64 6), (.str ⟨#[]⟩), (.str ⟨#[]⟩), (.sl 5 [(.agg [(.int .i64 n31), (.int .i64 n33), (.str s35), (.sl 5 l37), (.int .i64 n39)])]), (.int .i64 0), (.sl 8 l501), (.sl 8 l506), (.int .i64 0)])]) (IntKind.i64.wrap (xi15 - 1)) xl16 n508 xl18 xl19 xl20 xl21) else none))))))))) else (bif (decide (xi13 > 0)) then (G 68 [(.int .i64 4), (.sl 1 xl16), (.int .i64 n41)] fun o509 => (uI .i64 o509 fun n511 r510 => (uI .i64 r510 fun n513 r512 => (unNil r512 (G 106 [(.agg [(.sl 1 xl18), (.sl 1 xl19), (.sl 1 xl20), (.sl 1 xl21)]), (.int .i64 (IntKind.i64.wrap (xi13 - 1))), (.sl 1 xl16), (.int .i64 n513)] fun o514 => (uL 8 o514 fun l516 r515 => (uI .i64 r515 fun n518 r517 => (unNil r517 (bif (decide (List.length xl14 + 1 ≤ 1073741824)) then (X xi13 (xl14 ++ [(.agg [(.int .i64 7), (.str ⟨#[]⟩), (.str ⟨#[]⟩), (.sl 5 []), (.int .i64 (IntKind.i64.wrap (1 + n511))), (.sl 8 l516), (.sl 8 []), (.int .i64 0)])]) (IntKind.i64.wrap (xi15 - 1)) xl16 n518 xl18 xl19 xl20 xl21) else none))))))))) else (X xi13 xl14 (IntKind.i64.wrap (xi15 - 1)) xl16 n41 xl18 xl19 xl20 xl21))) else (bif (decide (xi13 > 0)) then (G 68 [(.int .i64 4), (.sl 1 xl16), (.int .i64 n41)] fun o519 => (uI .i64 o519 fun n521 r520 => (uI .i64 r520 fun n523 r522 => (unNil r522 (G 106 [(.agg [(.sl 1 xl18), (.sl 1 xl19), (.sl 1 xl20), (.sl 1 xl21)]), (.int .i64 (IntKind.i64.wrap (xi13 - 1))), (.sl 1 xl16), (.int .i64 n523)] fun o524 => (uL 8 o524 fun l526 r525 => (uI .i64 r525 fun n528 r527 => (unNil r527 (bif (decide (List.length xl14 + 1 ≤ 1073741824)) then (X xi13 (xl14 ++ [(.agg [(.int .i64 7), (.str ⟨#[]⟩), (.str ⟨#[]⟩), (.sl 5 []), (.int .i64 (IntKind.i64.wrap (1 + n521))), (.sl 8 l526), (.sl 8 []), (.int .i64 0)])]) (IntKind.i64.wrap (xi15 - 1)) xl16 n528 xl18 xl19 xl20 xl21) else none))))))))) else (X xi13 xl14 (IntKind.i64.wrap (xi15 - 1)) xl16 n41 xl18 xl19 xl20 xl21)))))) else (bif (n24 == 7) then (bif (decide (((List.length xl20 : Nat) : Int) > 0)) then (G 109 [(.sl 1 xl20), (.str ⟨#[]⟩), (.sl 1 xl16), (.int .i64 n41)] fun o529 => (uS o529 fun s531 r530 => (uI .i64 r530 fun n533 r532 => (unNil r532 (G 68 [(.int .i64 3), (.sl 1 xl16), (.int .i64 n533)] fun o534 => (uI .i64 o534 fun n536 r535 => (uI .i64 r535 fun n538 r537 => (unNil r537 (bif (decide (List.length xl14 + 1 ≤ 1073741824)) then (X xi13 (xl14 ++ [(.agg [(.int .i64 4), (.str s531), (.str ⟨#[]⟩), (.sl 5 [(.agg [(.int .i64 1), (.int .i64 (IntKind.i64.wrap (1 + n536))), (.str ⟨#[]⟩), (.sl 5 []), (.int .i64 0)])]), (.int .i64 0), (.sl 8 []), (.sl 8 []), (.int .i64 0)])]) (IntKind.i64.wrap (xi15 - 1)) xl16 n538 xl18 xl19 xl20 xl21) else none))))))))) else (bif (n24 == 8) then (bif (decide (((List.length xl20 : Nat) : Int) > 0)) then (G 109 [(.sl 1 xl20), (.str ⟨#[]⟩), (.sl 1 xl16), (.int .i64 n41)] fun o539 => (uS o539 fun s541 r540 => (uI .i64 r540 fun n543 r542 => (unNil r542 (bif (decide (List.length xl14 + 1 ≤ 1073741824)) then (X xi13 (xl14 ++ [(.agg [(.int .i64 5), (.str s541), (.str ⟨#[]⟩), (.sl 5 []), (.int .i64 0), (.sl 8 []), (.sl 8 []), (.int .i64 0)])]) (IntKind.i64.wrap (xi15 - 1)) xl16 n543 xl18 xl19 xl20 xl21) else none))))) else (bif (decide (xi13 > 0)) then (bif ((Int.tmod n24 2) == 0) then (G 106 [(.agg [(.sl 1 xl18), (.sl 1 xl19), (.sl 1 xl20), (.sl 1 xl21)]), (.int .i64 (IntKind.i64.wrap (xi13 - 1))), (.sl 1 xl16), (.int .i64 n41)] fun o544 => (uL 8 o544 fun l546 r545 => (uI .i64 r545 fun n548 r547 => (unNil r547 (G 106 [(.agg [(.sl 1 xl18), (.sl 1 xl19), (.sl 1 xl20), (.sl 1 xl21)]), (.int .i64 (IntKind.i64.wrap (xi13 - 1))), (.sl 1 xl16), (.int .i64 n548)] fun o549 => (uL 8 o549 fun l551 r550 => (uI .i64 r550 fun n553 r552 => (unNil r552 (bif (decide (List.length xl14 + 1 ≤ 1073741824)) then (X xi13 (xl14 ++ [(.agg [(.int .i64 6), (.str ⟨#[]⟩), (.str ⟨#[]⟩), (.sl 5 [(.agg [(.int .i64 n31), (.int .i64 n33), (.str s35), (.sl 5 l37), (.int .i64 n39)])]), (.int .i64 0), (.sl 8 l546), (.sl 8 l551), (.int .i64 0)])]) (IntKind.i64.wrap (xi15 - 1)) xl16 n553 xl18 xl19 xl20 xl21) else none))))))))) else (bif (decide (xi13 > 0)) then (G 68 [(.int .i64 4), (.sl 1 xl16), (.int .i64 n41)] fun o554 => (uI .i64 o554 fun n556 r555 => (uI .i64 r555 fun n558 r557 => (unNil r557 (G 106 [(.agg [(.sl 1 xl18), (.sl 1 xl19), (.sl 1 xl20), (.sl 1 xl21)]), (.int .i64 (IntKind.i64.wrap (xi13 - 1))), (.sl 1 xl16), (.int .i64 n558)] fun o559 => (uL 8 o559 fun l561 r560 => (uI .i64 r560 fun n563 r562 => (unNil r562 (bif (decide (List.length xl14 + 1 ≤ 1073741824)) then (X xi13 (xl14 ++ [(.agg [(.int .i64 7), (.str ⟨#[]⟩), (.str ⟨#[]⟩), (.sl 5 []), (.int .i64 (IntKind.i64.wrap (1 + n556))), (.sl 8 l561), (.sl 8 []), (.int .i64 0)])]) (IntKind.i64.wrap (xi15 - 1)) xl16 n563 xl18 xl19 xl20 xl21) else none))))))))) else (X xi13 xl14 (IntKind.i64.wrap (xi15 - 1)) xl16 n41 xl18 xl19 xl20 xl21))) else (bif (decide (xi13 > 0)) then (G 68 [(.int .i64 4), (.sl 1 xl16), (.int .i64 n41)] fun o564 => (uI .i64 o564 fun n566 r565 => (uI .i64 r565 fun n568 r567 => (unNil r567 (G 106 [(.agg [(.sl 1 xl18), (.sl 1 xl19), (.sl 1 xl20), (.sl 1 xl21)]), (.int .i64 (IntKind.i64.wrap (xi13 - 1))), (.sl 1 xl16), (.int .i64 n568)] fun o569 => (uL 8 o569 fun l571 r570 => (uI .i64 r570 fun n573 r572 => (unNil r572 (bif (decide (List.length xl14 + 1 ≤ 1073741824)) then (X xi13 (xl14 ++ [(.agg [(.int .i64 7), (.str ⟨#[]⟩), (.str ⟨#[]⟩), (.sl 5 []), (.int .i64 (IntKind.i64.wrap (1 + n566))), (.sl 8 l571), (.sl 8 []), (.int .i64 0)])]) (IntKind.i64.wrap (xi15 - 1)) xl16 n573 xl18 xl19 xl20 xl21) else none))))))))) else (X xi13 xl14 (IntKind.i64.wrap (xi15 - 1)) xl16 n41 xl18 xl19 xl20 xl21)))) else (bif (decide (xi13 > 0)) then (bif ((Int.tmod n24 2) == 0) then (G 106 [(.agg [(.sl 1 xl18), (.sl 1 xl19), (.sl 1 xl20), (.sl 1 xl21)]), (.int .i64 (IntKind.i64.wrap (xi13 - 1))), (.sl 1 xl16), (.int .i64 n41)] fun o574 => (uL 8 o574 fun l576 r575 => (uI .i64 r575 fun n578 r577 => (unNil r577 (G 106 [(.agg [(.sl 1 xl18), (.sl 1 xl19), (.sl 1 xl20), (.sl 1 xl21)]), (.int .i64 (IntKind.i64.wrap (xi13 - 1))), (.sl 1 xl16), (.int .i64 n578)] fun o579 => (uL 8 o579 fun l581 r580 => (uI .i64 r580 fun n583 r582 => (unNil r582 (bif (decide (List.length xl14 + 1 ≤ 1073741824)) then (X xi13 (xl14 ++ [(.agg [(.int .i64 6), (.str ⟨#[]⟩), (.str ⟨#[]⟩), (.sl 5 [(.agg [(.int .i64 n31), (.int .i64 n33), (.str s35), (.sl 5 l37), (.int .i64 n39)])]), (.int .i64 0), (.sl 8 l576), (.sl 8 l581), (.int .i64 0)])]) (IntKind.i64.wrap (xi15 - 1)) xl16 n583 xl18 xl19 xl20 xl21) else none))))))))) else (bif (decide (xi13 > 0)) then (G 68 [(.int .i64 4), (.sl 1 xl16), (.int .i64 n41)] fun o584 => (uI .i64 o584 fun n586 r585 => (uI .i64 r585 fun n588 r587 => (unNil r587 (G 106 [(.agg [(.sl 1 xl18), (.sl 1 xl19), (.sl 1 xl20), (.sl 1 xl21)]), (.int .i64 (IntKind.i64.wrap (xi13 - 1))), (.sl 1 xl16), (.int .i64 n588)] fun o589 => (uL 8 o589 fun l591 r590 => (uI .i64 r590 fun n593 r592 => (unNil r592 (bif (decide (List.length xl14 + 1 ≤ 1073741824)) then (X xi13 (xl14 ++ [(.agg [(.int .i64 7), (.str ⟨#[]⟩), (.str ⟨#[]⟩), (.sl 5 []), (.int .i64 (IntKind.i64.wrap (1 + n586))), (.sl 8 l591), (.sl 8 []), (.int .i64 0)])]) (IntKind.i64.wrap (xi15 - 1)) xl16 n593 xl18 xl19 xl20 xl21) else none))))))))) else (X xi13 xl14 (IntKind.i64.wrap (xi15 - 1)) xl16 n41 xl18 xl19 xl20 xl21))) else (bif (decide (xi13 > 0)) then (G 68 [(.int .i64 4), (.sl 1 xl16), (.int .i64 n41)] fun o594 => (uI .i64 o594 fun n596 r595 => (uI .i64 r595 fun n598 r597 => (unNil r597 (G 106 [(.agg [(.sl 1 xl18), (.sl 1 xl19), (.sl 1 xl20), (.sl 1 xl21)]), (.int .i64 (IntKind.i64.wrap (xi13 - 1))), (.sl 1 xl16), (.int .i64 n598)] fun o599 => (uL 8 o599 fun l601 r600 => (uI .i64 r600 fun n603 r602 => (unNil r602 (bif (decide (List.length xl14 + 1 ≤ 1073741824)) then (X xi13 (xl14 ++ [(.agg [(.int .i64 7), (.str ⟨#[]⟩), (.str ⟨#[]⟩), (.sl 5 []), (.int .i64 (IntKind.i64.wrap (1 + n596))), (.sl 8 l601), (.sl 8 []), (.int .i64 0)])]) (IntKind.i64.wrap (xi15 - 1)) xl16 n603 xl18 xl19 xl20 xl21) else none))))))))) else (X xi13 xl14 (IntKind.i64.wrap (xi15 - 1)) xl16 n41 xl18 xl19 xl20 xl21))))) else (bif (n24 == 8) then (bif (decide (((List.length xl20 : Nat) : Int) > 0)) then (G 109 [(.sl 1 xl20), (.str ⟨#[]⟩), (.sl 1 xl16), (.int .i64 n41)] fun o604 => (uS o604 fun s606 r605 => (uI .i64 r605 fun n608 r607 => (unNil r607 (bif (decide (List.length xl14 + 1 ≤ 1073741824)) then (X xi13 (xl14 ++ [(.agg [(.int .i64 5), (.str s606), (.str ⟨#[]⟩), (.sl 5 []), (.int .i64 0), (.sl 8 []), (.sl 8 []), (.int .i64 0)])]) (IntKind.i64.wrap (xi15 - 1)) xl16 n608 xl18 xl19 xl20 xl21) else none))))) else (bif (decide (xi13 > 0)) then (bif ((Int.tmod n24 2) == 0) then (G 106 [(.agg [(.sl 1 xl18), (.sl 1 xl19), (.sl 1 xl20), (.sl 1 xl21)]), (.int .i64 (IntKind.i64.wrap (xi13 - 1))), (.sl 1 xl16), (.int .i64 n41)] fun o609 => (uL 8 o609 fun l611 r610 => (uI .i64 r610 fun n613 r612 => (unNil r612 (G 106 [(.agg [(.sl 1 xl18), (.sl 1 xl19), (.sl 1 xl20), (.sl 1 xl21)]), (.int .i64 (IntKind.i64.wrap (xi13 - 1))), (.sl 1 xl16), (.int .i64 n613)] fun o614 => (uL 8 o614 fun l616 r615 => (uI .i64 r615 fun n618 r617 => (unNil r617 (bif (decide (List.length xl14 + 1 ≤ 1073741824)) then (X xi13 (xl14 ++ [(.agg [(.int .i64 6), (.str ⟨#[]⟩), (.str ⟨#[]⟩), (.sl 5 [(.agg [(.int .i64 n31), (.int .i64 n33), (.str s35), (.sl 5 l37), (.int .i64 n39)])]), (.int .i64 0), (.sl 8 l611), (.sl 8 l616), (.int .i64 0)])]) (IntKind.i64.wrap (xi15 - 1)) xl16 n618 xl18 xl19 xl20 xl21) else none))))))))) else (bif (decide (xi13 > 0)) then (G 68 [(.int .i64 4), (.sl 1 xl16), (.int .i64 n41)] fun o619 => (uI .i64 o619 fun n621 r620 => (uI .i64 r620 fun n623 r622 => (unNil r622 (G 106 [(.agg [(.sl 1 xl18), (.sl 1 xl19), (.sl 1 xl20), (.sl 1 xl21)]), (.int .i64 (IntKind.i64.wrap (xi13 - 1))), (.sl 1 xl16), (.int .i64 n623)] fun o624 => (uL 8 o624 fun l626 r625 => (uI .i64 r625 fun n628 r627 => (unNil r627 (bif (decide (List.length xl14 + 1 ≤ 1073741824)) then (X xi13 (xl14 ++ [(.agg [(.int .i64 7), (.str ⟨#[]⟩), (.str ⟨#[]⟩), (.sl 5 []), (.int .i64 (IntKind.i64.wrap (1 + n621))), (.sl 8 l626), (.sl 8 []), (.int .i64 0)])]) (IntKind.i64.wrap (xi15 - 1)) xl16 n628 xl18 xl19 xl20 xl21) else none))))))))) else (X xi13 xl14 (IntKind.i64.wrap (xi15 - 1)) xl16 n41 xl18 xl19 xl20 xl21))) else (bif (decide (xi13 > 0)) then (G 68 [(.int .i64 4), (.sl 1 xl16), (.int .i64 n41)] fun o629 => (uI .i64 o629 fun n631 r630 => (uI .i64 r630 fun n633 r632 => (unNil r632 (G 106 [(.agg [(.sl 1 xl18), (.sl 1 xl19), (.sl 1 xl20), (.sl 1 xl21)]), (.int .i64 (IntKind.i64.wrap (xi13 - 1))), (.sl 1 xl16), (.int .i64 n633)] fun o634 => (uL 8 o634 fun l636 r635 => (uI .i64 r635 fun n638 r637 => (unNil r637 (bif (decide (List.length xl14 + 1 ≤ 1073741824)) then (X xi13 (xl14 ++ [(.agg [(.int .i64 7), (.str ⟨#[]⟩), (.str ⟨#[]⟩), (.sl 5 []), (.int .i64 (IntKind.i64.wrap (1 + n631))), (.sl 8 l636), (.sl 8 []), (.int .i64 0)])]) (IntKind.i64.wrap (xi15 - 1)) xl16 n638 xl18 xl19 xl20 xl21) else none))))))))) else (X xi13 xl14 (IntKind.i64.wrap (xi15 - 1)) xl16 n41 xl18 xl19 xl20 xl21)))) else (bif (decide (xi13 > 0)) then (bif ((Int.tmod n24 2) == 0) then (G 106 [(.agg [(.sl 1 xl18), (.sl 1 xl19), (.sl 1 xl20), (.sl 1 xl21)]), (.int .i64 (IntKind.i64.wrap (xi13 - 1))), (.sl 1 xl16), (.int .i64 n41)] fun o639 => (uL 8 o639 fun l641 r640 => (uI .i64 r640 fun n643 r642 => (unNil r642 (G 106 [(.agg [(.sl 1 xl18), (.sl 1 xl19), (.sl 1 xl20), (.sl 1 xl21)]), (.int .i64 (IntKind.i64.wrap (xi13 - 1))), (.sl 1 xl16), (.int .i64 n643)] fun o644 => (uL 8 o644 fun l646 r645 => (uI .i64 r645 fun n648 r647 => (unNil r647 (bif (decide (List.length xl14 + 1 ≤ 1073741824)) then (X xi13 (xl14 ++ [(.agg [(.int .i64 6), (.str ⟨#[]⟩), (.str ⟨#[]⟩), (.sl 5 [(.agg [(.int .i64 n31), (.int .i64 n33), (.str s35), (.sl 5 l37), (.int .i64 n39)])]), (.int .i64 0), (.sl 8 l641), (.sl 8 l646), (.int .i64 0)])]) (IntKind.i64.wrap (xi15 - 1)) xl16 n648 xl18 xl19 xl20 xl21) else none))))))))) else (bif (decide (xi13 > 0)) then (G 68 [(.int .i64 4), (.sl 1 xl16), (.int .i64 n41)] fun o649 => (uI .i64 o649 fun n651 r650 => (uI .i64 r650 fun n653 r652 => (unNil r652 (G 106 [(.agg [(.sl 1 xl18), (.sl 1 xl19), (.sl 1 xl20), (.sl 1 xl21)]), (.int .i64 (IntKind.i64.wrap (xi13 - 1))), (.sl 1 xl16), (.int .i64 n653)] fun o654 => (uL 8 o654 fun l656 r655 => (uI .i64 r655 fun n658 r657 => (unNil r657 (bif (decide (List.length xl14 + 1 ≤ 1073741824)) then (X xi13 (xl14 ++ [(.agg [(.int .i64 7), (.str ⟨#[]⟩), (.str ⟨#[]⟩), (.sl 5 []), (.int .i64 (IntKind.i64.wrap (1 + n651))), (.sl 8 l656), (.sl 8 []), (.int .i64 0)])]) (IntKind.i64.wrap (xi15 - 1)) xl16 n658 xl18 xl19 xl20 xl21) else none))))))))) else (X xi13 xl14 (IntKind.i64.wrap (xi15 - 1)) xl16 n41 xl18 xl19 xl20 xl21))) else (bif (decide (xi13 > 0)) then (G 68 [(.int .i64 4), (.sl 1 xl16), (.int .i64 n41)] fun o659 => (uI .i64 o659 fun n661 r660 => (uI .i64 r660 fun n663 r662 => (unNil r662 (G 106 [(.agg [(.sl 1 xl18), (.sl 1 xl19), (.sl 1 xl20), (.sl 1 xl21)]), (.int .i64 (IntKind.i64.wrap (xi13 - 1))), (.sl 1 xl16), (.int .i64 n663)] fun o664 => (uL 8 o664 fun l666 r665 => (uI .i64 r665 fun n668 r667 => (unNil r667 (bif (decide (List.length xl14 + 1 ≤ 1073741824)) then (X xi13 (xl14 ++ [(.agg [(.int .i64 7), (.str ⟨#[]⟩), (.str ⟨#[]⟩), (.sl 5 []), (.int .i64 (IntKind.i64.wrap (1 + n661))), (.sl 8 l666), (.sl 8 []), (.int .i64 0)])]) (IntKind.i64.wrap (xi15 - 1)) xl16 n668 xl18 xl19 xl20 xl21) else none))))))))) else (X xi13 xl14 (IntKind.i64.wrap (xi15 - 1)) xl16 n41 xl18 xl19 xl20 xl21)))))))))))))))))))))) else (Ko xl14 xl16 xi17))
def l106_0g {R : Type} (G : ORC R) (k : Nat) (Ko : List V → List V → Int → Option R) : Nat → Int → List V → Int → List V → Int → List V → List V → List V → List V → Option R
  | 0 => fun _ _ _ _ _ _ _ _ _ => none
  | j + 1 => b106_0 G k (l106_0g G k Ko j) Ko
def l106_0 {R : Type} (G : ORC R) (k : Nat) (xi13 : Int) (xl14 : List V) (xi15 : Int) (xl16 : List V) (xi17 : Int) (xl18 xl19 : List V) (xl20 xl21 : List V) (Ko : List V → List V → Int → Option R) : Option R := l106_0g G k Ko k xi13 xl14 xi15 xl16 xi17 xl18 xl19 xl20 xl21
def rd106_0 {R : Type} (G : ORC R) (k : Nat) (K : Ex → St → Option R) (j : Nat) (vs : List V) : Option R := match vs with
  | [(.int .i64 xi13), (.sl 8 xl14), (.int .i64 xi15), (.sl 1 xl16), (.int .i64 xi17), (.sl 1 xl18), (.sl 1 xl19), (.sl 1 xl20), (.sl 1 xl21)] => l106_0g G k (fun yl672 yl673 yi674 => K .normal (P106_0x.inst [(.sl 8 yl672), (.sl 1 yl673), (.int .i64 yi674)])) j xi13 xl14 xi15 xl16 xi17 xl18 xl19 xl20 xl21
  | _ => none
def L106 {R : Type} (G : ORC R) (k : Nat) : Nat → St → (Ex → St → Option R) → Option R
  | 0, S, K => P106_0h.mat S fun vs => rd106_0 G k K k vs
  | _, _, _ => none
def f106 {R : Type} (G : ORC R) (k : Nat) (al1 al2 : List V) (al3 al4 : List V) (ai5 : Int) (bl6 : List V) (bi7 : Int) (K : List V → Option R) : Option R :=
  (G 68 [(.int .i64 3), (.sl 1 bl6), (.int .i64 bi7)] fun o8 => (uI .i64 o8 fun n10 r9 => (uI .i64 r9 fun n12 r11 => (unNil r11 (l106_0 G k ai5 [] n10 bl6 n12 al1 al2 al3 al4 (fun yl669 yl670 yi671 => (K [(.sl 8 yl669), (.int .i64 yi671)])))))))
noncomputable def D106_0 : LoopD := { id := 0, body := loopAt 0 (bodyOf Try.f106), head := P106_0h, out := P106_0x, ret := default }
theorem l106_0_is {R : Type} (G : ORC R) (k : Nat) (X : List V → Option R) (K : Ex → St → Option R) (xi13 : Int) (xl14 : List V) (xi15 : Int) (xl16 : List V) (xi17 : Int) (xl18 xl19 : List V) (xl20 xl21 : List V) :
    roundOf (TAB.env 106) G (L106 G k) D106_0 X K [(.int .i64 xi13), (.sl 8 xl14), (.int .i64 xi15), (.sl 1 xl16), (.int .i64 xi17), (.sl 1 xl18), (.sl 1 xl19), (.sl 1 xl20), (.sl 1 xl21)] = b106_0 G k (fun xi13 xl14 xi15 xl16 xi17 xl18 xl19 xl20 xl21 => X [(.int .i64 xi13), (.sl 8 xl14), (.int .i64 xi15), (.sl 1 xl16), (.int .i64 xi17), (.sl 1 xl18), (.sl 1 xl19), (.sl 1 xl20), (.sl 1 xl21)]) (fun yl672 yl673 yi674 => K .normal (P106_0x.inst [(.sl 8 yl672), (.sl 1 yl673), (.int .i64 yi674)])) xi13 xl14 xi15 xl16 xi17 xl18 xl19 xl20 xl21 := by kernel_rfl
theorem f106_is {R : Type} (G : ORC R) (k : Nat) (K : List V → Option R) (al1 al2 : List V) (al3 al4 : List V) (ai5 : Int) (bl6 : List V) (bi7 : Int) :
    callF (TAB.env 106) G (L106 G k) Try.f106 S106 [(.agg [(.sl 1 al1), (.sl 1 al2), (.sl 1 al3), (.sl 1 al4)]), (.int .i64 ai5), (.sl 1 bl6), (.int .i64 bi7)] K = f106 G k al1 al2 al3 al4 ai5 bl6 bi7 K := by kernel_rfl
theorem li106_0 {R : Type} (G : ORC R) (k : Nat) : LoopIs (TAB.env 106) G (L106 G k) 0 (loopAt 0 (bodyOf Try.f106)) :=
  ⟨D106_0, fun j vs K => rd106_0 G k K j vs, k, rfl, rfl, by kernel_rfl, by kernel_rfl, by kernel_rfl, (fun vs K => by unfold rd106_0; dsimp only; split <;> rfl),
    (fun j vs K r h => by
      unfold rd106_0 at h
      dsimp only at h
      split at h
      · rw [l106_0_is]; exact h
      · cases h), (fun S K r h => h)⟩
theorem lo106 : loopsOf (bodyOf Try.f106) = [(0, loopAt 0 (bodyOf Try.f106))] := by kernel_rfl
theorem la106 {R : Type} (G : ORC R) (k : Nat) : LoopsAre (TAB.env 106) G (L106 G k) (bodyOf Try.f106) :=
  loopsAre_of (by rw [lo106]; intro p hp; simp only [List.mem_cons, List.not_mem_nil, or_false] at hp; subst hp; exact li106_0 G k)
def g106 {R : Type} (G : ORC R) (k : Nat) (args : List V) (K : List V → Option R) : Option R := match args with
  | [(.agg [(.sl 1 al1), (.sl 1 al2), (.sl 1 al3), (.sl 1 al4)]), (.int .i64 ai5), (.sl 1 bl6), (.int .i64 bi7)] => f106 G k al1 al2 al3 al4 ai5 bl6 bi7 K
  | _ => none
theorem s106 {R : Type} {G : ORC R} {k : Nat} (hG : Sound Try.prog TAB G) (args : List V) (K : List V → Option R) (r : R) (h : g106 G k args K = some r) : ∃ o, CallOK Try.prog TAB.env 106 args o ∧ K o = some r := by
  unfold g106 at h
  split at h
  · rw [← f106_is] at h
    exact callF_sound (f := 106) TAB_chk MO hG Try.func106 (sg := S106) (by kernel_rfl) (by kernel_rfl) (la106 G k) h
  · cases h
end Go.Proofs.Ytblabbcmokldiaa.Vm
open Go Go.VM
set_option linter.unusedVariables false
set_option maxRecDepth 100000
set_option maxHeartbeats 8000000
namespace Go.Proofs.Ytblabbcmokldiaa.Vm
section
variable {R : Type} {G : ORC R} {k : Nat} {K : List V → Option R}
def BlockOK (d : Nat) (G : ORC R) : Prop := ∀ (a b c s L : List V) (n i : Int) (K : List V → Option R), n = (d : Int) → StrsS 100 a → StrsS 100 b → StrsS 100 c → StrsS 100 s → RowS L i →
  W (fun o => ∃ q j, o = [.sl 8 q, .int .i64 j] ∧ BlockS (d + 1) q ∧ RowS L j) K (G 106 [.agg [.sl 1 a, .sl 1 b, .sl 1 c, .sl 1 s], .int .i64 n, .sl 1 L, .int .i64 i] K)
theorem act_mk {d : Nat} {kind n : Int} {nm ev : ByteArray} {x th el : List V} (h1 : I64 n) (h2 : StrS nm) (h3 : StrS ev) (h4 : 1 ≤ kind ∧ kind ≤ 7) (h5 : x.length ≤ 1) (h6 : ∀ e ∈ x, ExprS 3 e) (h7 : kind = 6 → x.length = 1) (h8 : BlockS d th) (h9 : BlockS d el) :
    ActS (d + 1) (.agg [.int .i64 kind, .str nm, .str ev, .sl 5 x, .int .i64 n, .sl 8 th, .sl 8 el, .int .i64 0]) := ⟨kind, nm, ev, x, n, th, el, rfl, h1, h2, h3, h4.1, h4.2, h5, h6, h7, h8.1, h9.1, h8.2, h9.2⟩
theorem block0 {d : Nat} : BlockS d [] := ⟨by simp, by simp⟩
theorem take_one {e : V} {n : Nat} (h : ExprS 3 e) : (List.take n [e]).length ≤ 1 ∧ ∀ v ∈ List.take n [e], ExprS 3 v :=
  ⟨by simp [List.length_take]; omega, fun v hv => one_mem h v (List.mem_of_mem_take hv)⟩
theorem num_of {n : Int} (h : I64 n) : ∀ e ∈ [V.agg [.int .i64 1, .int .i64 n, .str ⟨#[]⟩, .sl 5 [], .int .i64 0]], ExprS 3 e := one_mem (expr_mk (d := 2) h strs0 ⟨by omega, by omega⟩ (by simp) (by simp) (by omega))
theorem i64_0 : I64 0 := by unfold I64; omega
theorem block_round {d : Nat} (hd : d ≤ 2) (hN : NextS G) (hPk : PickS G) (hEv : EventS G) (hE : ExprOK 2 G) (hB : ∀ d', d = d' + 1 → BlockOK d' G) {Q : List V → Prop} {K : List V → Option R} {a b c s L acc : List V} {n i dd : Int}
    (X : Int → List V → Int → List V → Int → List V → List V → List V → List V → Option R) (Ko : List V → List V → Int → Option R)
    (hdd : dd = (d : Int)) (ha : StrsS 100 a) (hb : StrsS 100 b) (hc : StrsS 100 c) (hs : StrsS 100 s) (hr : RowS L i) (hn : n > 0) (hacc : acc.length ≤ 2)
    (hX1 : ∀ v j, ActS (d + 1) v → RowS L j → W Q K (X dd (acc ++ [v]) (IntKind.i64.wrap (n - 1)) L j a b c s))
    (hX0 : ∀ j, RowS L j → W Q K (X dd acc (IntKind.i64.wrap (n - 1)) L j a b c s)) :
    W Q K (b106_0 G k X Ko dd acc n L i a b c s) := by
  unfold b106_0
  unfold NextS at hN; unfold PickS at hPk; unfold EventS at hEv; unfold ExprOK at hE; unfold BlockOK at hB
  have la := ha.1
  have lb := hb.1
  have lc := hc.1
  refine W_yes hn ?_
  refine W_call (hN _ _ _ _ (by omega) (by omega) hr) ?_
  rintro _ ⟨x, i1, rfl, x1, x2, hr1⟩
  refine W_uI (W_uI (W_unNil ?_))
  refine W_call (hE _ _ _ _ _ _ _ _ (by rfl) ha hs hr1) ?_
  rintro _ ⟨e, i2, rfl, he, hr2⟩
  have he2 := he
  obtain ⟨_, _, _, _, rfl, _⟩ := he
  repeat (with_reducible (first | (refine W_uI ?_) | (refine W_uS ?_) | (refine W_uL ?_) | (refine W_uA ?_) | (refine W_uB ?_) | (refine W_aI ?_) | (refine W_aL ?_) | (refine W_ca3 ?_) | (refine W_ce3 ?_) | (refine W_ca4 ?_) | (refine W_ce4 ?_) | (refine W_ca5 ?_) | (refine W_ce5 ?_) | (refine W_ca6 ?_) | (refine W_ce6 ?_) | (refine W_ca7 ?_) | (refine W_ce7 ?_) | (refine W_ca8 ?_) | (refine W_ce8 ?_) | (refine W_unCons ?_) | (refine W_unNil ?_) | (refine W_asInt ?_) | (refine W_asStr ?_) | (refine W_asSl ?_) | (refine W_asAgg ?_) | (refine W_kd ?_) | (refine W_z ?_)))
  have ht := take_one (n := 0) he2
  by_cases hd0 : d = 0
  · have hdd0 : ¬ dd > 0 := by omega
    clear hB
    repeat' (first
      | with_reducible (first | (refine W_uI ?_) | (refine W_uS ?_) | (refine W_uL ?_) | (refine W_uA ?_) | (refine W_uB ?_) | (refine W_aI ?_) | (refine W_aL ?_) | (refine W_ca3 ?_) | (refine W_ce3 ?_) | (refine W_ca4 ?_) | (refine W_ce4 ?_) | (refine W_ca5 ?_) | (refine W_ce5 ?_) | (refine W_ca6 ?_) | (refine W_ce6 ?_) | (refine W_ca7 ?_) | (refine W_ce7 ?_) | (refine W_ca8 ?_) | (refine W_ce8 ?_) | (refine W_unCons ?_) | (refine W_unNil ?_) | (refine W_asInt ?_) | (refine W_asStr ?_) | (refine W_asSl ?_) | (refine W_asAgg ?_) | (refine W_kd ?_) | (refine W_z ?_))
      | ((with_reducible (refine W_call (hN _ _ _ _ ?_ ?_ (by assumption)) ?_)); omega; omega; rintro _ ⟨_, _, rfl, _, _, _⟩)
      | ((with_reducible (refine W_call (hPk _ _ _ _ 100 _ (by assumption) ?_ strs0 (by assumption)) ?_)); omega; rintro _ ⟨_, _, rfl, _, _, _⟩)
      | ((with_reducible (refine W_call (hEv _ _) ?_)); rintro _ ⟨_, rfl, _⟩)
      | (with_reducible (refine W_and ?_)) | ((with_reducible (refine W_no hdd0 ?_))) | ((with_reducible (refine W_yes ?_ ?_)); omega) | ((with_reducible (refine W_no ?_ ?_)); omega) | ((with_reducible (refine W_eqY ?_ ?_)); omega) | ((with_reducible (refine W_eqN ?_ ?_)); omega)
      | (with_reducible (refine W_dec (fun _ => ?_) (fun _ => ?_))) | (with_reducible (refine W_beqI (fun _ => ?_) (fun _ => ?_)))
      | (with_reducible (exact hX0 _ (by assumption)))
      | ((with_reducible (refine hX1 _ _ ?_ (by assumption)));
         exact act_mk (by first | exact i64_0 | (rw [wrap_id (by omega)]; unfold I64; omega)) (by first | assumption | exact strs0) (by first | assumption | exact strs0) ⟨by omega, by omega⟩
           (by first | exact Nat.le_refl 1 | exact Nat.zero_le 1 | exact (take_one he2).1) (by first | exact one_mem he2 | exact (take_one he2).2 | exact num_of (by rw [wrap_id (by omega)]; unfold I64; omega) | simp) (by first | omega | exact fun _ => rfl) block0 block0))
  · obtain ⟨d', rfl⟩ : ∃ d', d = d' + 1 := ⟨d - 1, by omega⟩
    have hdd0 : dd > 0 := by omega
    have hB := hB d' rfl
    have hBn : IntKind.i64.wrap (dd - 1) = (d' : Int) := by rw [wrap_id (by omega)]; omega
    repeat' (first
      | with_reducible (first | (refine W_uI ?_) | (refine W_uS ?_) | (refine W_uL ?_) | (refine W_uA ?_) | (refine W_uB ?_) | (refine W_aI ?_) | (refine W_aL ?_) | (refine W_ca3 ?_) | (refine W_ce3 ?_) | (refine W_ca4 ?_) | (refine W_ce4 ?_) | (refine W_ca5 ?_) | (refine W_ce5 ?_) | (refine W_ca6 ?_) | (refine W_ce6 ?_) | (refine W_ca7 ?_) | (refine W_ce7 ?_) | (refine W_ca8 ?_) | (refine W_ce8 ?_) | (refine W_unCons ?_) | (refine W_unNil ?_) | (refine W_asInt ?_) | (refine W_asStr ?_) | (refine W_asSl ?_) | (refine W_asAgg ?_) | (refine W_kd ?_) | (refine W_z ?_))
      | ((with_reducible (refine W_call (hN _ _ _ _ ?_ ?_ (by assumption)) ?_)); omega; omega; rintro _ ⟨_, _, rfl, _, _, _⟩)
      | ((with_reducible (refine W_call (hPk _ _ _ _ 100 _ (by assumption) ?_ strs0 (by assumption)) ?_)); omega; rintro _ ⟨_, _, rfl, _, _, _⟩)
      | ((with_reducible (refine W_call (hEv _ _) ?_)); rintro _ ⟨_, rfl, _⟩)
      | ((with_reducible (refine W_call (hB _ _ _ _ _ _ _ _ hBn (by assumption) (by assumption) (by assumption) (by assumption) (by assumption)) ?_)); rintro _ ⟨_, _, rfl, _, _⟩)
      | (with_reducible (refine W_and ?_)) | ((with_reducible (refine W_yes hdd0 ?_))) | ((with_reducible (refine W_yes ?_ ?_)); omega) | ((with_reducible (refine W_no ?_ ?_)); omega) | ((with_reducible (refine W_eqY ?_ ?_)); omega) | ((with_reducible (refine W_eqN ?_ ?_)); omega)
      | (with_reducible (refine W_dec (fun _ => ?_) (fun _ => ?_))) | (with_reducible (refine W_beqI (fun _ => ?_) (fun _ => ?_)))
      | (with_reducible (exact hX0 _ (by assumption)))
      | ((with_reducible (refine hX1 _ _ ?_ (by assumption)));
         exact act_mk (by first | exact i64_0 | (rw [wrap_id (by omega)]; unfold I64; omega)) (by first | assumption | exact strs0) (by first | assumption | exact strs0) ⟨by omega, by omega⟩
           (by first | exact Nat.le_refl 1 | exact Nat.zero_le 1 | exact (take_one he2).1) (by first | exact one_mem he2 | exact (take_one he2).2 | exact num_of (by rw [wrap_id (by omega)]; unfold I64; omega) | simp) (by first | omega | exact fun _ => rfl) (by first | assumption | exact block0) (by first | assumption | exact block0)))
theorem block_loop {d : Nat} (hd : d ≤ 2) (hN : NextS G) (hPk : PickS G) (hEv : EventS G) (hE : ExprOK 2 G) (hB : ∀ d', d = d' + 1 → BlockOK d' G) {Q : List V → Prop} {K : List V → Option R} {a b c s L : List V} {dd : Int} {Ko : List V → List V → Int → Option R}
    (hdd : dd = (d : Int)) (ha : StrsS 100 a) (hb : StrsS 100 b) (hc : StrsS 100 c) (hs : StrsS 100 s) (hKo : ∀ q j, BlockS (d + 1) q → RowS L j → W Q K (Ko q L j)) :
    ∀ (j : Nat) (acc : List V) (n i : Int), n < j → (acc.length : Int) + n ≤ 2 → 0 ≤ n → (∀ v ∈ acc, ActS (d + 1) v) → RowS L i → W Q K (l106_0g G k Ko j dd acc n L i a b c s)
  | 0, acc, n, i, h1, h2, h3, h4, h5 => by omega
  | j + 1, acc, n, i, h1, h2, h3, h4, h5 => by
    show W Q K (b106_0 G k (l106_0g G k Ko j) Ko dd acc n L i a b c s)
    by_cases hn : n > 0
    · refine block_round hd hN hPk hEv hE hB _ _ hdd ha hb hc hs h5 hn (by omega) (fun v j' hv hj => ?_) (fun j' hj => ?_)
      · refine block_loop hd hN hPk hEv hE hB hdd ha hb hc hs hKo j _ _ j' (by rw [wrap_id (by omega)]; omega) (by rw [wrap_id (by omega)]; simp; omega) (by rw [wrap_id (by omega)]; omega) ?_ hj
        intro w hw
        rcases List.mem_append.1 hw with hw | hw
        · exact h4 w hw
        · rw [List.mem_singleton.1 hw]; exact hv
      · exact block_loop hd hN hPk hEv hE hB hdd ha hb hc hs hKo j _ _ j' (by rw [wrap_id (by omega)]; omega) (by rw [wrap_id (by omega)]; omega) (by rw [wrap_id (by omega)]; omega) h4 hj
    · unfold b106_0
      exact W_no hn (hKo acc i ⟨by omega, h4⟩ h5)
theorem block_ok {d : Nat} (hk : 1000 ≤ k) (hd : d ≤ 2) (hN : NextS G) (hPk : PickS G) (hEv : EventS G) (hE : ExprOK 2 G) (hB : ∀ d', d = d' + 1 → BlockOK d' G) : BlockOK d (fun _ args (K : List V → Option R) => g106 G k args K) := by
  intro a b c s L n i K hn ha hb hc hs hr
  show W _ K (f106 G k a b c s n L i K)
  unfold f106
  refine W_call (hN _ _ _ _ (by omega) (by omega) hr) ?_
  rintro _ ⟨x, i1, rfl, x1, x2, hr1⟩
  refine W_uI (W_uI (W_unNil ?_))
  unfold l106_0
  exact block_loop hd hN hPk hEv hE hB hn ha hb hc hs (fun q j hq hj => W_ret ⟨_, _, rfl, hq, hj⟩) k [] x i1 (by omega) (by simp; omega) x1 (by simp) hr1
end
end Go.Proofs.Ytblabbcmokldiaa.Vm
open Go Go.VM
set_option linter.unusedVariables false
set_option maxRecDepth 100000
set_option maxHeartbeats 4000000
namespace Go.Proofs.Ytblabbcmokldiaa.Vm
/-! ### (*cotillion/cotillionref37.growing).state: function 91 -/
def P91_0h : Pat := { tmps := unds [.stat (.one (.ptr 0 0) .pt), .var (.int .i64) .pr, .undef, .undef, .undef, .undef, .stat (.one (.ptr 8 0) .pt), .undef, .stat (.one (.ptr 10 0) .pt), .var (.int .i64) .pr] 137 [], boxes := nons [some [.stat ⟨(.ptr 1 0), .pt, 0, true⟩, .var (.sl 1) .ro true, .var (.sl 1) .ro true, .var (.sl 1) .ro true, .var (.sl 1) .ro true, .var (.int .i64) .pr false, .var (.sl 1) (.own true) false], some [.var (.sl 1) .ro true, .var (.int .i64) .pr false]] 6 (nons [some [.var (.int .i64) .pr false, .var .str .pr false, .var (.sl 8) (.own true) false, .var (.sl 8) (.own true) false, .var (.sl 5) (.own true) false, .var (.sl 7) (.own true) false, .var (.int .i64) .pr false], none, some [.var (.int .i64) .pr false, .var .str .pr false, .var (.sl 8) (.own true) false, .var (.sl 8) (.own true) false, .var (.sl 5) (.own true) false, .var (.sl 7) (.own true) false, .var (.int .i64) .pr false]] 138 []) }
def P91_0x : Pat := { tmps := unds [.stat (.one (.ptr 0 0) .pt)] 5 (unds [.stat (.one (.ptr 8 0) .pt), .undef, .stat (.one (.ptr 10 0) .pt)] 138 []), boxes := nons [some [.stat ⟨(.ptr 1 0), .pt, 0, true⟩, .var (.sl 1) .ro true, .var (.sl 1) .ro true, .var (.sl 1) .ro true, .var (.sl 1) .ro true, .var (.int .i64) .pr false, .var (.sl 1) (.own true) false], some [.var (.sl 1) .ro true, .var (.int .i64) .pr false]] 6 (nons [some [.var (.int .i64) .pr false, .var .str .pr false, .var (.sl 8) (.own true) false, .var (.sl 8) (.own true) false, .var (.sl 5) (.own true) false, .var (.sl 7) (.own true) false, .var (.int .i64) .pr false], none, some [.var (.int .i64) .pr false, .var .str .pr false, .var (.sl 8) (.own true) false, .var (.sl 8) (.own true) false, .var (.sl 5) (.own true) false, .var (.sl 7) (.own true) false, .var (.int .i64) .pr false]] 138 []) }
def b91_0 {R : Type} (G : ORC R) (k : Nat) (X : Int → Int → List V → List V → List V → List V → Int → List V → List V → Int → Int → ByteArray → List V → List V → List V → List V → Int → Int → ByteArray → List V → List V → List V → List V → Int → Option R) (Ko : List V → List V → List V → List V → Int → List V → List V → Int → Int → ByteArray → List V → List V → List V → List V → Int → Int → ByteArray → List V → List V → List V → List V → Int → Option R) (xi32 xi33 : Int) (xl34 xl35 : List V) (xl36 xl37 : List V) (xi38 : Int) (xl39 xl40 : List V) (xi41 xi42 : Int) (xs43 : ByteArray) (xl44 xl45 : List V) (xl46 xl47 : List V) (xi48 xi49 : Int) (xs50 : ByteArray) (xl51 xl52 : List V) (xl53 xl54 : List V) (xi55 : Int) : Option R :=
  (bif (decide (xi33 > 0)) then (bif (decide (xi38 > 0)) then (G 91 [(.int .i64 (IntKind.i64.wrap (xi32 - 1))), (.bool true), (.sl 1 xl34), (.sl 1 xl35), (.sl 1 xl36), (.sl 1 xl37), (.int .i64 xi38), (.sl 1 xl39), (.sl 1 xl40), (.int .i64 xi41)] fun o56 => (uA o56 fun l58 r57 => (uI .i64 l58 fun n60 r59 => (uS r59 fun s62 r61 => (uL 8 r61 fun l64 r63 => (uL 8 r63 fun l66 r65 => (uL 5 r65 fun l68 r67 => (uL 7 r67 fun l70 r69 => (uI .i64 r69 fun n72 r71 => (unNil r71 (uI .i64 r57 fun n74 r73 => (uL 1 r73 fun l76 r75 => (uI .i64 r75 fun n78 r77 => (unNil r77 (bif (decide (List.length xl54 + 1 ≤ 1073741824)) then (X xi32 (IntKind.i64.wrap (xi33 - 1)) xl34 xl35 xl36 xl37 n74 l76 xl40 n78 xi42 xs43 xl44 xl45 xl46 xl47 xi48 xi49 xs50 xl51 xl52 xl53 (xl54 ++ [(.agg [(.int .i64 n60), (.str s62), (.sl 8 l64), (.sl 8 l66), (.sl 5 l68), (.sl 7 l70), (.int .i64 n72)])]) xi55) else none))))))))))))))) else (bif (((List.length xl54 : Nat) : Int) == 0) then (G 91 [(.int .i64 (IntKind.i64.wrap (xi32 - 1))), (.bool true), (.sl 1 xl34), (.sl 1 xl35), (.sl 1 xl36), (.sl 1 xl37), (.int .i64 xi38), (.sl 1 xl39), (.sl 1 xl40), (.int .i64 xi41)] fun o79 => (uA o79 fun l81 r80 => (uI .i64 l81 fun n83 r82 => (uS r82 fun s85 r84 => (uL 8 r84 fun l87 r86 => (uL 8 r86 fun l89 r88 => (uL 5 r88 fun l91 r90 => (uL 7 r90 fun l93 r92 => (uI .i64 r92 fun n95 r94 => (unNil r94 (uI .i64 r80 fun n97 r96 => (uL 1 r96 fun l99 r98 => (uI .i64 r98 fun n101 r100 => (unNil r100 (bif (decide (List.length xl54 + 1 ≤ 1073741824)) then (X xi32 (IntKind.i64.wrap (xi33 - 1)) xl34 xl35 xl36 xl37 n97 l99 xl40 n101 xi42 xs43 xl44 xl45 xl46 xl47 xi48 xi49 xs50 xl51 xl52 xl53 (xl54 ++ [(.agg [(.int .i64 n83), (.str s85), (.sl 8 l87), (.sl 8 l89), (.sl 5 l91), (.sl 7 l93), (.int .i64 n95)])]) xi55) else none))))))))))))))) else (Ko xl34 xl35 xl36 xl37 xi38 xl39 xl40 xi41 xi42 xs43 xl44 xl45 xl46 xl47 xi48 xi49 xs50 xl51 xl52 xl53 xl54 xi55))) else (Ko xl34 xl35 xl36 xl37 xi38 xl39 xl40 xi41 xi42 xs43 xl44 xl45 xl46 xl47 xi48 xi49 xs50 xl51 xl52 xl53 xl54 xi55))
def l91_0g {R : Type} (G : ORC R) (k : Nat) (Ko : List V → List V → List V → List V → Int → List V → List V → Int → Int → ByteArray → List V → List V → List V → List V → Int → Int → ByteArray → List V → List V → List V → List V → Int → Option R) : Nat → Int → Int → List V → List V → List V → List V → Int → List V → List V → Int → Int → ByteArray → List V → List V → List V → List V → Int → Int → ByteArray → List V → List V → List V → List V → Int → Option R
  | 0 => fun _ _ _ _ _ _ _ _ _ _ _ _ _ _ _ _ _ _ _ _ _ _ _ _ => none
  | j + 1 => b91_0 G k (l91_0g G k Ko j) Ko
def l91_0 {R : Type} (G : ORC R) (k : Nat) (xi32 xi33 : Int) (xl34 xl35 : List V) (xl36 xl37 : List V) (xi38 : Int) (xl39 xl40 : List V) (xi41 xi42 : Int) (xs43 : ByteArray) (xl44 xl45 : List V) (xl46 xl47 : List V) (xi48 xi49 : Int) (xs50 : ByteArray) (xl51 xl52 : List V) (xl53 xl54 : List V) (xi55 : Int) (Ko : List V → List V → List V → List V → Int → List V → List V → Int → Int → ByteArray → List V → List V → List V → List V → Int → Int → ByteArray → List V → List V → List V → List V → Int → Option R) : Option R := l91_0g G k Ko k xi32 xi33 xl34 xl35 xl36 xl37 xi38 xl39 xl40 xi41 xi42 xs43 xl44 xl45 xl46 xl47 xi48 xi49 xs50 xl51 xl52 xl53 xl54 xi55
def rd91_0 {R : Type} (G : ORC R) (k : Nat) (K : Ex → St → Option R) (j : Nat) (vs : List V) : Option R := match vs with
  | [(.int .i64 xi32), (.int .i64 xi33), (.sl 1 xl34), (.sl 1 xl35), (.sl 1 xl36), (.sl 1 xl37), (.int .i64 xi38), (.sl 1 xl39), (.sl 1 xl40), (.int .i64 xi41), (.int .i64 xi42), (.str xs43), (.sl 8 xl44), (.sl 8 xl45), (.sl 5 xl46), (.sl 7 xl47), (.int .i64 xi48), (.int .i64 xi49), (.str xs50), (.sl 8 xl51), (.sl 8 xl52), (.sl 5 xl53), (.sl 7 xl54), (.int .i64 xi55)] => l91_0g G k (fun yl177 yl178 yl179 yl180 yi181 yl182 yl183 yi184 yi185 ys186 yl187 yl188 yl189 yl190 yi191 yi192 ys193 yl194 yl195 yl196 yl197 yi198 => K .normal (P91_0x.inst [(.sl 1 yl177), (.sl 1 yl178), (.sl 1 yl179), (.sl 1 yl180), (.int .i64 yi181), (.sl 1 yl182), (.sl 1 yl183), (.int .i64 yi184), (.int .i64 yi185), (.str ys186), (.sl 8 yl187), (.sl 8 yl188), (.sl 5 yl189), (.sl 7 yl190), (.int .i64 yi191), (.int .i64 yi192), (.str ys193), (.sl 8 yl194), (.sl 8 yl195), (.sl 5 yl196), (.sl 7 yl197), (.int .i64 yi198)])) j xi32 xi33 xl34 xl35 xl36 xl37 xi38 xl39 xl40 xi41 xi42 xs43 xl44 xl45 xl46 xl47 xi48 xi49 xs50 xl51 xl52 xl53 xl54 xi55
  | _ => none
def L91 {R : Type} (G : ORC R) (k : Nat) : Nat → St → (Ex → St → Option R) → Option R
  | 0, S, K => P91_0h.mat S fun vs => rd91_0 G k K k vs
  | _, _, _ => none
def f91 {R : Type} (G : ORC R) (k : Nat) (ai1 : Int) (ab2 : Bool) (bl3 bl4 : List V) (bl5 bl6 : List V) (bi7 : Int) (bl8 bl9 : List V) (bi10 : Int) (K : List V → Option R) : Option R :=
  (G 105 [(.int .i64 ((List.length bl8 : Nat) : Int))] fun o11 => (uS o11 fun s13 r12 => (unNil r12 (bif (decide (ByteArray.size ⟨#[115]⟩ + ByteArray.size s13 ≤ 4294967296)) then (bif (decide (List.length bl8 + 1 ≤ 1073741824)) then (G 105 [(.int .i64 ((List.length bl8 : Nat) : Int))] fun o14 => (uS o14 fun s16 r15 => (unNil r15 (bif (decide (ByteArray.size ⟨#[115]⟩ + ByteArray.size s16 ≤ 4294967296)) then (bif (decide (ai1 > 0)) then (bif (decide ((IntKind.i64.wrap (bi7 - 1)) ≥ 2)) then (G 68 [(.int .i64 3), (.sl 1 bl9), (.int .i64 bi10)] fun o17 => (uI .i64 o17 fun n19 r18 => (uI .i64 r18 fun n21 r20 => (unNil r20 (bif (decide (n19 > 0)) then (G 68 [(.int .i64 3), (.sl 1 bl9), (.int .i64 n21)] fun o22 => (uI .i64 o22 fun n24 r23 => (uI .i64 r23 fun n26 r25 => (unNil r25 (bif (n24 == 0) then (G 68 [(.int .i64 3), (.sl 1 bl9), (.int .i64 n26)] fun o27 => (uI .i64 o27 fun n29 r28 => (uI .i64 r28 fun n31 r30 => (unNil r30 (l91_0 G k ai1 (IntKind.i64.wrap (1 + n29)) bl3 bl4 bl5 bl6 (IntKind.i64.wrap (bi7 - 1)) (bl8 ++ [(.str (⟨#[115]⟩ ++ s13))]) bl9 n31 0 ⟨#[]⟩ [] [] [] [] 0 2 (⟨#[115]⟩ ++ s16) [] [] [] [] 0 (fun yl102 yl103 yl104 yl105 yi106 yl107 yl108 yi109 yi110 ys111 yl112 yl113 yl114 yl115 yi116 yi117 ys118 yl119 yl120 yl121 yl122 yi123 => (bif (decide (yi106 > 0)) then (G 68 [(.int .i64 2), (.sl 1 yl108), (.int .i64 yi109)] fun o124 => (uI .i64 o124 fun n126 r125 => (uI .i64 r125 fun n128 r127 => (unNil r127 (bif (n126 == 0) then (G 68 [(.int .i64 2), (.sl 1 yl108), (.int .i64 n128)] fun o129 => (uI .i64 o129 fun n131 r130 => (uI .i64 r130 fun n133 r132 => (unNil r132 (G 105 [(.int .i64 ((List.length yl107 : Nat) : Int))] fun o134 => (uS o134 fun s136 r135 => (unNil r135 (bif (decide (ByteArray.size ⟨#[104]⟩ + ByteArray.size s136 ≤ 4294967296)) then (bif (decide (List.length yl107 + 1 ≤ 1073741824)) then (bif (decide (List.length yl122 + 1 ≤ 1073741824)) then (K [(.agg [(.int .i64 yi117), (.str ys118), (.sl 8 yl119), (.sl 8 yl120), (.sl 5 yl121), (.sl 7 (yl122 ++ [(.agg [(.int .i64 (IntKind.i64.wrap (3 + n131))), (.str (⟨#[104]⟩ ++ s136)), (.sl 8 []), (.sl 8 []), (.sl 5 []), (.sl 7 []), (.int .i64 0)])])), (.int .i64 yi123)]), (.int .i64 (IntKind.i64.wrap (yi106 - 1))), (.sl 1 (yl107 ++ [(.str (⟨#[104]⟩ ++ s136))])), (.int .i64 n133)]) else none) else none) else none)))))))) else (K [(.agg [(.int .i64 yi117), (.str ys118), (.sl 8 yl119), (.sl 8 yl120), (.sl 5 yl121), (.sl 7 yl122), (.int .i64 yi123)]), (.int .i64 yi106), (.sl 1 yl107), (.int .i64 n128)])))))) else (K [(.agg [(.int .i64 yi117), (.str ys118), (.sl 8 yl119), (.sl 8 yl120), (.sl 5 yl121), (.sl 7 yl122), (.int .i64 yi123)]), (.int .i64 yi106), (.sl 1 yl107), (.int .i64 yi109)])))))))) else (G 68 [(.int .i64 3), (.sl 1 bl9), (.int .i64 n26)] fun o137 => (uI .i64 o137 fun n139 r138 => (uI .i64 r138 fun n141 r140 => (unNil r140 (l91_0 G k ai1 (IntKind.i64.wrap (1 + n139)) bl3 bl4 bl5 bl6 (IntKind.i64.wrap (bi7 - 1)) (bl8 ++ [(.str (⟨#[115]⟩ ++ s13))]) bl9 n141 0 ⟨#[]⟩ [] [] [] [] 0 1 (⟨#[115]⟩ ++ s16) [] [] [] [] 0 (fun yl142 yl143 yl144 yl145 yi146 yl147 yl148 yi149 yi150 ys151 yl152 yl153 yl154 yl155 yi156 yi157 ys158 yl159 yl160 yl161 yl162 yi163 => (bif (decide (yi146 > 0)) then (G 68 [(.int .i64 2), (.sl 1 yl148), (.int .i64 yi149)] fun o164 => (uI .i64 o164 fun n166 r165 => (uI .i64 r165 fun n168 r167 => (unNil r167 (bif (n166 == 0) then (G 68 [(.int .i64 2), (.sl 1 yl148), (.int .i64 n168)] fun o169 => (uI .i64 o169 fun n171 r170 => (uI .i64 r170 fun n173 r172 => (unNil r172 (G 105 [(.int .i64 ((List.length yl147 : Nat) : Int))] fun o174 => (uS o174 fun s176 r175 => (unNil r175 (bif (decide (ByteArray.size ⟨#[104]⟩ + ByteArray.size s176 ≤ 4294967296)) then (bif (decide (List.length yl147 + 1 ≤ 1073741824)) then (bif (decide (List.length yl162 + 1 ≤ 1073741824)) then (K [(.agg [(.int .i64 yi157), (.str ys158), (.sl 8 yl159), (.sl 8 yl160), (.sl 5 yl161), (.sl 7 (yl162 ++ [(.agg [(.int .i64 (IntKind.i64.wrap (3 + n171))), (.str (⟨#[104]⟩ ++ s176)), (.sl 8 []), (.sl 8 []), (.sl 5 []), (.sl 7 []), (.int .i64 0)])])), (.int .i64 yi163)]), (.int .i64 (IntKind.i64.wrap (yi146 - 1))), (.sl 1 (yl147 ++ [(.str (⟨#[104]⟩ ++ s176))])), (.int .i64 n173)]) else none) else none) else none)))))))) else (K [(.agg [(.int .i64 yi157), (.str ys158), (.sl 8 yl159), (.sl 8 yl160), (.sl 5 yl161), (.sl 7 yl162), (.int .i64 yi163)]), (.int .i64 yi146), (.sl 1 yl147), (.int .i64 n168)])))))) else (K [(.agg [(.int .i64 yi157), (.str ys158), (.sl 8 yl159), (.sl 8 yl160), (.sl 5 yl161), (.sl 7 yl162), (.int .i64 yi163)]), (.int .i64 yi146), (.sl 1 yl147), (.int .i64 yi149)]))))))))))))) else (K [(.agg [(.int .i64 1), (.str (⟨#[115]⟩ ++ s16)), (.sl 8 []), (.sl 8 []), (.sl 5 []), (.sl 7 []), (.int .i64 0)]), (.int .i64 (IntKind.i64.wrap (bi7 - 1))), (.sl 1 (bl8 ++ [(.str (⟨#[115]⟩ ++ s13))])), (.int .i64 n21)])))))) else (K [(.agg [(.int .i64 1), (.str (⟨#[115]⟩ ++ s16)), (.sl 8 []), (.sl 8 []), (.sl 5 []), (.sl 7 []), (.int .i64 0)]), (.int .i64 (IntKind.i64.wrap (bi7 - 1))), (.sl 1 (bl8 ++ [(.str (⟨#[115]⟩ ++ s13))])), (.int .i64 bi10)])) else (K [(.agg [(.int .i64 1), (.str (⟨#[115]⟩ ++ s16)), (.sl 8 []), (.sl 8 []), (.sl 5 []), (.sl 7 []), (.int .i64 0)]), (.int .i64 (IntKind.i64.wrap (bi7 - 1))), (.sl 1 (bl8 ++ [(.str (⟨#[115]⟩ ++ s13))])), (.int .i64 bi10)])) else none)))) else none) else none))))
noncomputable def D91_0 : LoopD := { id := 0, body := loopAt 0 (bodyOf Try.f91), head := P91_0h, out := P91_0x, ret := default }
theorem l91_0_is {R : Type} (G : ORC R) (k : Nat) (X : List V → Option R) (K : Ex → St → Option R) (xi32 xi33 : Int) (xl34 xl35 : List V) (xl36 xl37 : List V) (xi38 : Int) (xl39 xl40 : List V) (xi41 xi42 : Int) (xs43 : ByteArray) (xl44 xl45 : List V) (xl46 xl47 : List V) (xi48 xi49 : Int) (xs50 : ByteArray) (xl51 xl52 : List V) (xl53 xl54 : List V) (xi55 : Int) :
    roundOf (TAB.env 91) G (L91 G k) D91_0 X K [(.int .i64 xi32), (.int .i64 xi33), (.sl 1 xl34), (.sl 1 xl35), (.sl 1 xl36), (.sl 1 xl37), (.int .i64 xi38), (.sl 1 xl39), (.sl 1 xl40), (.int .i64 xi41), (.int .i64 xi42), (.str xs43), (.sl 8 xl44), (.sl 8 xl45), (.sl 5 xl46), (.sl 7 xl47), (.int .i64 xi48), (.int .i64 xi49), (.str xs50), (.sl 8 xl51), (.sl 8 xl52), (.sl 5 xl53), (.sl 7 xl54), (.int .i64 xi55)] = b91_0 G k (fun xi32 xi33 xl34 xl35 xl36 xl37 xi38 xl39 xl40 xi41 xi42 xs43 xl44 xl45 xl46 xl47 xi48 xi49 xs50 xl51 xl52 xl53 xl54 xi55 => X [(.int .i64 xi32), (.int .i64 xi33), (.sl 1 xl34), (.sl 1 xl35), (.sl 1 xl36), (.sl 1 xl37), (.int .i64 xi38), (.sl 1 xl39), (.sl 1 xl40), (.int .i64 xi41), (.int .i64 xi42), (.str xs43), (.sl 8 xl44), (.sl 8 xl45), (.sl 5 xl46), (.sl 7 xl47), (.int .i64 xi48), (.int .i64 xi49), (.str xs50), (.sl 8 xl51), (.sl 8 xl52), (.sl 5 xl53), (.sl 7 xl54), (.int .i64 xi55)]) (fun yl177 yl178 yl179 yl180 yi181 yl182 yl183 yi184 yi185 ys186 yl187 yl188 yl189 yl190 yi191 yi192 ys193 yl194 yl195 yl196 yl197 yi198 => K .normal (P91_0x.inst [(.sl 1 yl177), (.sl 1 yl178), (.sl 1 yl179), (.sl 1 yl180), (.int .i64 yi181), (.sl 1 yl182), (.sl 1 yl183), (.int .i64 yi184), (.int .i64 yi185), (.str ys186), (.sl 8 yl187), (.sl 8 yl188), (.sl 5 yl189), (.sl 7 yl190), (.int .i64 yi191), (.int .i64 yi192), (.str ys193), (.sl 8 yl194), (.sl 8 yl195), (.sl 5 yl196), (.sl 7 yl197), (.int .i64 yi198)])) xi32 xi33 xl34 xl35 xl36 xl37 xi38 xl39 xl40 xi41 xi42 xs43 xl44 xl45 xl46 xl47 xi48 xi49 xs50 xl51 xl52 xl53 xl54 xi55 := by kernel_rfl
theorem f91_is {R : Type} (G : ORC R) (k : Nat) (K : List V → Option R) (ai1 : Int) (ab2 : Bool) (bl3 bl4 : List V) (bl5 bl6 : List V) (bi7 : Int) (bl8 bl9 : List V) (bi10 : Int) :
    callF (TAB.env 91) G (L91 G k) Try.f91 S91 [(.int .i64 ai1), (.bool ab2), (.sl 1 bl3), (.sl 1 bl4), (.sl 1 bl5), (.sl 1 bl6), (.int .i64 bi7), (.sl 1 bl8), (.sl 1 bl9), (.int .i64 bi10)] K = f91 G k ai1 ab2 bl3 bl4 bl5 bl6 bi7 bl8 bl9 bi10 K := by kernel_rfl
theorem li91_0 {R : Type} (G : ORC R) (k : Nat) : LoopIs (TAB.env 91) G (L91 G k) 0 (loopAt 0 (bodyOf Try.f91)) :=
  ⟨D91_0, fun j vs K => rd91_0 G k K j vs, k, rfl, rfl, by kernel_rfl, by kernel_rfl, by kernel_rfl, (fun vs K => by unfold rd91_0; dsimp only; split <;> rfl),
    (fun j vs K r h => by
      unfold rd91_0 at h
      dsimp only at h
      split at h
      · rw [l91_0_is]; exact h
      · cases h), (fun S K r h => h)⟩
theorem lo91 : loopsOf (bodyOf Try.f91) = [(0, loopAt 0 (bodyOf Try.f91))] := by kernel_rfl
theorem la91 {R : Type} (G : ORC R) (k : Nat) : LoopsAre (TAB.env 91) G (L91 G k) (bodyOf Try.f91) :=
  loopsAre_of (by rw [lo91]; intro p hp; simp only [List.mem_cons, List.not_mem_nil, or_false] at hp; subst hp; exact li91_0 G k)
def g91 {R : Type} (G : ORC R) (k : Nat) (args : List V) (K : List V → Option R) : Option R := match args with
  | [(.int .i64 ai1), (.bool ab2), (.sl 1 bl3), (.sl 1 bl4), (.sl 1 bl5), (.sl 1 bl6), (.int .i64 bi7), (.sl 1 bl8), (.sl 1 bl9), (.int .i64 bi10)] => f91 G k ai1 ab2 bl3 bl4 bl5 bl6 bi7 bl8 bl9 bi10 K
  | _ => none
theorem s91 {R : Type} {G : ORC R} {k : Nat} (hG : Sound Try.prog TAB G) (args : List V) (K : List V → Option R) (r : R) (h : g91 G k args K = some r) : ∃ o, CallOK Try.prog TAB.env 91 args o ∧ K o = some r := by
  unfold g91 at h
  split at h
  · rw [← f91_is] at h
    exact callF_sound (f := 91) TAB_chk MO hG Try.func91 (sg := S91) (by kernel_rfl) (by kernel_rfl) (la91 G k) h
  · cases h
end Go.Proofs.Ytblabbcmokldiaa.Vm
open Go Go.VM
set_option linter.unusedVariables false
set_option maxRecDepth 100000
set_option maxHeartbeats 8000000
namespace Go.Proofs.Ytblabbcmokldiaa.Vm
section
variable {R : Type} {G : ORC R} {k : Nat} {K : List V → Option R}
def StOK (d : Nat) (G : ORC R) : Prop := ∀ (b : Bool) (a p c s all L : List V) (n left i : Int) (K : List V → Option R), n = (d : Int) → 1 ≤ left → left + all.length ≤ 20 → NmsS all → NmI all → RowS L i →
  W (fun o => ∃ x left' all' j, o = [x, .int .i64 left', .sl 1 all', .int .i64 j] ∧ StateS 0 (d + 1) x ∧ kindV x ≤ 2 ∧ 0 ≤ left' ∧ left' < left ∧ left' + (all'.length : Int) = left + all.length ∧ NmsS all' ∧ RowS L j ∧ all' = all ++ nmV (d + 1) x ∧ NmI all') K
    (G 91 [.int .i64 n, .bool b, .sl 1 a, .sl 1 p, .sl 1 c, .sl 1 s, .int .i64 left, .sl 1 all, .sl 1 L, .int .i64 i] K)
theorem nms_snoc {l : List V} {s : ByteArray} (h : NmsS l) (hs : StrS s) (h0 : 0 < s.size) : NmsS (l ++ [.str s]) := fun v hv => by
  rcases List.mem_append.1 hv with hv | hv
  · exact h v hv
  · rw [List.mem_singleton.1 hv]; exact ⟨s, rfl, hs, h0⟩
theorem mem_snoc {P : V → Prop} {l : List V} {x : V} (h : ∀ v ∈ l, P v) (hx : P x) : ∀ v ∈ l ++ [x], P v := fun v hv => by
  rcases List.mem_append.1 hv with hv | hv
  · exact h v hv
  · rw [List.mem_singleton.1 hv]; exact hx
theorem head_snoc {l : List V} {x : V} (h : ∀ s r, l = s :: r → kindV s ≤ 2) (hx : l = [] → kindV x ≤ 2) : ∀ s r, l ++ [x] = s :: r → kindV s ≤ 2 := by
  intro s r e
  cases l with
  | nil => simp at e; rw [← e.1]; exact hx rfl
  | cons a l => simp at e; rw [← e.1]; exact h a l rfl
theorem state_mk {d : Nat} {kind : Int} {nm : ByteArray} {kids : List V} (h1 : StrS nm) (h2 : 0 < nm.size) (h3 : 1 ≤ kind ∧ kind ≤ 4) (h4 : kids.length ≤ 4) (h5 : ∀ s ∈ kids, StateS 0 d s) (h6 : 2 < kind → kids = []) (h7 : ∀ s r, kids = s :: r → kindV s ≤ 2) (h8 : kind = 2 → kids ≠ []) :
    StateS 0 (d + 1) (.agg [.int .i64 kind, .str nm, .sl 8 [], .sl 8 [], .sl 5 [], .sl 7 kids, .int .i64 0]) :=
  ⟨kind, nm, [], [], [], kids, rfl, h1, h2, h3.1, h3.2, block0, block0, by simp, by simp, h4, h5, fun h => ⟨h6 h, rfl, rfl, rfl⟩, h7, h8⟩
theorem pre_strs {c : UInt8} {s : ByteArray} (h : s.size ≤ 30) : StrS (⟨#[c]⟩ ++ s) ∧ 0 < (⟨#[c]⟩ ++ s : ByteArray).size := by
  have e : (⟨#[c]⟩ ++ s : ByteArray).size = 1 + s.size := by rw [ByteArray.size_append]; rfl
  unfold StrS; rw [e]; omega
theorem st_loop {d : Nat} (hS : StOK d G) {Q : List V → Prop} {K : List V → Option R} {a p c s L h1 h2 h3 h4 en ex tr : List V} {dd h0 h5 kind z T m : Int} {hs nm : ByteArray} {Ko : List V → List V → List V → List V → Int → List V → List V → Int → Int → ByteArray → List V → List V → List V → List V → Int → Int → ByteArray → List V → List V → List V → List V → Int → Option R}
    (hdd : IntKind.i64.wrap (dd - 1) = (d : Int)) (hT : T ≤ 20) {all0 : List V}
    (hKo : ∀ left all j kids, (all0 ++ nmVL (d + 1) kids = all ∧ NmI all) → 0 ≤ left → left ≤ m → left + (List.length all : Int) = T → NmsS all → RowS L j → kids.length ≤ 3 → (∀ s ∈ kids, StateS 0 (d + 1) s) → (∀ s r, kids = s :: r → kindV s ≤ 2) → kids ≠ [] → W Q K (Ko a p c s left all L j h0 hs h1 h2 h3 h4 h5 kind nm en ex tr kids z)) :
    ∀ (j : Nat) (n left : Int) (all : List V) (i : Int) (acc : List V), (all0 ++ nmVL (d + 1) acc = all ∧ NmI all) → n < j → 0 ≤ n → (acc.length : Int) + n ≤ 3 → (acc = [] → 1 ≤ left ∧ 0 < n) → 0 ≤ left → left ≤ m → left + (List.length all : Int) = T → NmsS all → RowS L i → (∀ s ∈ acc, StateS 0 (d + 1) s) → (∀ s r, acc = s :: r → kindV s ≤ 2) →
      W Q K (l91_0g G k Ko j dd n a p c s left all L i h0 hs h1 h2 h3 h4 h5 kind nm en ex tr acc z)
  | 0, n, left, all, i, acc, a0, a1, a2, a3, a4, a5, a6, a7, a8, a9, a10, a11 => by omega
  | j + 1, n, left, all, i, acc, a0, a1, a2, a3, a4, a5, a6, a7, a8, a9, a10, a11 => by
    show W Q K (b91_0 G k (l91_0g G k Ko j) Ko dd n a p c s left all L i h0 hs h1 h2 h3 h4 h5 kind nm en ex tr acc z)
    unfold b91_0
    by_cases hn : n > 0
    · refine W_yes hn ?_
      by_cases hl : left > 0
      · refine W_yes hl ?_
        refine W_call (hS true a p c s all L _ left i _ hdd (by omega) (by omega) a8 a0.2 a9) ?_
        rintro _ ⟨x, left', all', j', rfl, b1, b2, b3, b4, b5, b6, b7, b8, b8'⟩
        have b1' := b1
        have b9 : all0 ++ nmVL (d + 1) (acc ++ [x]) = all' ∧ NmI all' := ⟨by rw [nmVL_app, ← List.append_assoc, a0.1, b8]; simp [nmVL], b8'⟩
        obtain ⟨_, _, _, _, _, _, rfl, _⟩ := b1
        repeat (with_reducible (first | (refine W_uI ?_) | (refine W_uS ?_) | (refine W_uL ?_) | (refine W_uA ?_) | (refine W_uB ?_) | (refine W_aI ?_) | (refine W_aL ?_) | (refine W_ca3 ?_) | (refine W_ce3 ?_) | (refine W_ca4 ?_) | (refine W_ce4 ?_) | (refine W_ca5 ?_) | (refine W_ce5 ?_) | (refine W_ca6 ?_) | (refine W_ce6 ?_) | (refine W_ca7 ?_) | (refine W_ce7 ?_) | (refine W_ca8 ?_) | (refine W_ce8 ?_) | (refine W_unCons ?_) | (refine W_unNil ?_) | (refine W_asInt ?_) | (refine W_asStr ?_) | (refine W_asSl ?_) | (refine W_asAgg ?_) | (refine W_kd ?_) | (refine W_z ?_)))
        refine W_yes (by omega) ?_
        have e1 : IntKind.i64.wrap (n - 1) = n - 1 := wrap_id (by omega)
        rw [e1]
        exact st_loop hS hdd hT hKo j _ _ _ _ _ b9 (by omega) (by omega) (by simp; omega) (by simp) b3 (by omega) (by omega) b6 b7 (mem_snoc a10 b1') (head_snoc a11 (fun _ => b2))
      · refine W_no hl ?_
        have hacc : acc ≠ [] := fun h => by have := (a4 h).1; omega
        have hlen : ((acc.length : Nat) : Int) ≠ 0 := fun h => hacc (List.eq_nil_of_length_eq_zero (by omega))
        refine W_eqN hlen ?_
        exact hKo left all i acc a0 a5 a6 a7 a8 a9 (by omega) a10 a11 hacc
    · exact W_no hn (hKo left all i acc a0 a5 a6 a7 a8 a9 (by omega) a10 a11 (fun h => by have := (a4 h).2; omega))
theorem st_ok {d : Nat} (hk : 1000 ≤ k) (hd : d ≤ 3) (hN : NextS G) (hDg : DigS G) (hS : ∀ d', d = d' + 1 → StOK d' G) : StOK d (fun _ args (K : List V → Option R) => g91 G k args K) := by
  intro b a p c s all L n left i K hn h1 h2 h3 h3' h4
  show W _ K (f91 G k n b a p c s left all L i K)
  unfold f91
  have e1 : IntKind.i64.wrap (left - 1) = left - 1 := wrap_id (by omega)
  rw [e1]
  have s115 : ByteArray.size ⟨#[115]⟩ = 1 := by decide
  have s104 : ByteArray.size ⟨#[104]⟩ = 1 := by decide
  rw [s115, s104]
  unfold NextS at hN; unfold DigS at hDg
  have dsz : ∀ m, (digB m).size ≤ 30 := fun m => Nat.le_trans (decD_size (d := 3)) (by omega)
  have ddsz : ∀ m, (digB m).size ≤ 3 := fun m => decD_size (d := 3)
  refine W_call (hDg _ _ (by omega) (by omega)) ?_
  rintro _ rfl
  have t1s := dsz ((all.length : Int).toNat)
  have t1s' := ddsz ((all.length : Int).toNat)
  refine W_uS (W_unNil (W_yes (by omega) (W_yes (by omega) ?_)))
  refine W_call (hDg _ _ (by omega) (by omega)) ?_
  rintro _ rfl
  refine W_uS (W_unNil (W_yes (by omega) ?_))
  have t1p := pre_strs (c := 115) t1s
  have hall := nms_snoc h3 t1p.1 t1p.2
  have leaf : StateS 0 (d + 1) (.agg [.int .i64 1, .str (⟨#[115]⟩ ++ digB (Int.toNat all.length)), .sl 8 [], .sl 8 [], .sl 5 [], .sl 7 [], .int .i64 0]) := state_mk t1p.1 t1p.2 ⟨by omega, by omega⟩ (by simp) (by simp) (fun _ => rfl) (by simp) (by omega)
  have hlen : left - 1 + ((all ++ [V.str (⟨#[115]⟩ ++ digB (Int.toNat all.length))]).length : Int) = left + all.length := by simp; omega
  have hni : NmI (all ++ [V.str (⟨#[115]⟩ ++ digB (Int.toNat all.length))]) := nmI_snoc h3' (.inl rfl)
  have hsz : all ++ [V.str (⟨#[115]⟩ ++ digB (Int.toNat all.length))] = all ++ nmV (d + 1) (.agg [.int .i64 1, .str (⟨#[115]⟩ ++ digB (Int.toNat all.length)), .sl 8 [], .sl 8 [], .sl 5 [], .sl 7 [], .int .i64 0]) ∧ NmI (all ++ [V.str (⟨#[115]⟩ ++ digB (Int.toNat all.length))]) := ⟨rfl, hni⟩
  by_cases hd0 : n > 0
  · obtain ⟨d', rfl⟩ : ∃ d', d = d' + 1 := ⟨d - 1, by omega⟩
    have hdd : IntKind.i64.wrap (n - 1) = (d' : Int) := by rw [wrap_id (by omega)]; omega
    refine W_yes hd0 ?_
    refine W_dec (fun hl => ?_) (fun _ => W_ret ⟨_, _, _, _, rfl, leaf, by simp [kindV], by omega, by omega, hlen, hall, h4, hsz.1, hsz.2⟩)
    refine W_call (hN _ _ _ _ (by omega) (by omega) h4) ?_
    rintro _ ⟨x1, i1, rfl, x11, x12, r1⟩
    refine W_uI (W_uI (W_unNil ?_))
    refine W_dec (fun hx1 => ?_) (fun _ => W_ret ⟨_, _, _, _, rfl, leaf, by simp [kindV], by omega, by omega, hlen, hall, r1, hsz.1, hsz.2⟩)
    refine W_call (hN _ _ _ _ (by omega) (by omega) r1) ?_
    rintro _ ⟨x2, i2, rfl, x21, x22, r2⟩
    refine W_uI (W_uI (W_unNil ?_))
    refine W_beqI (fun _ => ?_) (fun _ => ?_)
    all_goals
      refine W_call (hN _ _ _ _ (by omega) (by omega) r2) ?_
      rintro _ ⟨x3, i3, rfl, x31, x32, r3⟩
      refine W_uI (W_uI (W_unNil ?_))
      have e2 : IntKind.i64.wrap (1 + x3) = 1 + x3 := wrap_id (by omega)
      rw [e2]
      unfold l91_0
      refine st_loop (m := left - 1) (all0 := all ++ [V.str (⟨#[115]⟩ ++ digB (Int.toNat all.length))]) (hS d' rfl) hdd h2 ?_ k _ _ _ _ _ ⟨by simp [nmVL], hni⟩ (by omega) (by omega) (by simp; omega) (fun _ => ⟨by omega, by omega⟩) (by omega) (by omega) hlen hall r3 (by simp) (by simp)
      intro left' all' j' kids c0 c1 c2 c3 c4 c5 c6 c7 c8 c9
      have fin : ∀ (K' : List V → Option R) kd, K' = K → (kd = 1 ∨ kd = 2) → ∀ jj, RowS L jj → W (fun o => ∃ x left'' all'' j, o = [x, .int .i64 left'', .sl 1 all'', .int .i64 j] ∧ StateS 0 (d' + 1 + 1) x ∧ kindV x ≤ 2 ∧ 0 ≤ left'' ∧ left'' < left ∧ left'' + (all''.length : Int) = left + all.length ∧ NmsS all'' ∧ RowS L j ∧ all'' = all ++ nmV (d' + 1 + 1) x ∧ NmI all'') K
          (K [.agg [.int .i64 kd, .str (⟨#[115]⟩ ++ digB (Int.toNat all.length)), .sl 8 [], .sl 8 [], .sl 5 [], .sl 7 kids, .int .i64 0], .int .i64 left', .sl 1 all', .int .i64 jj]) := by
        intro K' kd _ hkd jj hjj
        exact W_ret ⟨_, _, _, _, rfl, state_mk t1p.1 t1p.2 ⟨by omega, by omega⟩ (by omega) c7 (by omega) c8 (fun _ => c9), by simp [kindV]; omega, c1, by omega, by omega, c4, hjj, by rw [← c0.1, List.append_assoc]; rfl, c0.2⟩
      refine W_dec (fun hl1 => ?_) (fun _ => fin K _ rfl (by omega) _ c5)
      refine W_call (hN _ _ _ _ (by omega) (by omega) c5) ?_
      rintro _ ⟨x4, i4, rfl, x41, x42, r4⟩
      refine W_uI (W_uI (W_unNil ?_))
      refine W_beqI (fun _ => ?_) (fun _ => fin K _ rfl (by omega) _ r4)
      refine W_call (hN _ _ _ _ (by omega) (by omega) r4) ?_
      rintro _ ⟨x5, i5, rfl, x51, x52, r5⟩
      refine W_uI (W_uI (W_unNil ?_))
      refine W_call (hDg _ _ (by omega) (by omega)) ?_
      rintro _ rfl
      have t3s := dsz ((all'.length : Int).toNat)
      have t3s' := ddsz ((all'.length : Int).toNat)
      have t3p := pre_strs (c := 104) t3s
      refine W_uS (W_unNil (W_yes (by omega) (W_yes (by omega) (W_yes (by omega) ?_))))
      have e3 : IntKind.i64.wrap (3 + x5) = 3 + x5 := wrap_id (by omega)
      have e4 : IntKind.i64.wrap (left' - 1) = left' - 1 := wrap_id (by omega)
      rw [e3, e4]
      exact W_ret ⟨_, _, _, _, rfl, state_mk t1p.1 t1p.2 ⟨by omega, by omega⟩ (by simp; omega) (mem_snoc c7 (state_mk t3p.1 t3p.2 ⟨by omega, by omega⟩ (by simp) (by simp) (fun _ => rfl) (by simp) (by omega))) (by omega) (head_snoc c8 (fun h => absurd h c9)) (fun _ => by simp), by simp [kindV], by omega, by omega, by simp; omega, nms_snoc c4 t3p.1 t3p.2, r5, by rw [← c0.1]; simp [nmV, nmVL, stKids], nmI_snoc c0.2 (.inr rfl)⟩
  · exact W_no hd0 (W_ret ⟨_, _, _, _, rfl, leaf, by simp [kindV], by omega, by omega, hlen, hall, h4, hsz.1, hsz.2⟩)
end
end Go.Proofs.Ytblabbcmokldiaa.Vm
open Go Go.VM
set_option linter.unusedVariables false
set_option maxRecDepth 100000
set_option maxHeartbeats 4000000
namespace Go.Proofs.Ytblabbcmokldiaa.Vm
/-! ### (*cotillion/cotillionref37.growing).fill: function 92 -/
def P92_0h : Pat := { tmps := unds [.stat (.one (.ptr 0 0) .pt), .undef, .undef, .stat (.one (.ptr 5 0) .pt), .stat (.one (.ptr 6 0) .pt), .var (.int .i64) .pr] 135 [], boxes := nons [some [.stat ⟨(.ptr 1 0), .pt, 0, true⟩, .var (.sl 1) .ro true, .var (.sl 1) .ro true, .var (.sl 1) .ro true, .var (.sl 1) .ro true, .var (.int .i64) .pr false, .var (.sl 1) .ro true], some [.var (.sl 1) .ro true, .var (.int .i64) .pr false], none, none, none, some [.var (.int .i64) .pr false, .var .str .pr false, .var (.sl 8) (.own true) false, .var (.sl 8) (.own true) false, .var (.sl 5) (.own true) false, .var (.sl 7) (.own true) false, .var (.int .i64) .pr false], some [.var (.int .i64) .pr false, .var .str .pr false, .var (.sl 8) (.own true) false, .var (.sl 8) (.own true) false, .var (.sl 5) (.own true) false, .var (.sl 7) (.own true) false, .var (.int .i64) .pr false]] 136 [] }
def P92_0x : Pat := { tmps := unds [.stat (.one (.ptr 0 0) .pt), .undef, .undef, .stat (.one (.ptr 5 0) .pt), .stat (.one (.ptr 6 0) .pt)] 136 [], boxes := nons [some [.stat ⟨(.ptr 1 0), .pt, 0, true⟩, .var (.sl 1) .ro true, .var (.sl 1) .ro true, .var (.sl 1) .ro true, .var (.sl 1) .ro true, .var (.int .i64) .pr false, .var (.sl 1) .ro true], some [.var (.sl 1) .ro true, .var (.int .i64) .pr false], none, none, none, some [.var (.int .i64) .pr false, .var .str .pr false, .var (.sl 8) (.own true) false, .var (.sl 8) (.own true) false, .var (.sl 5) (.own true) false, .var (.sl 7) (.own true) false, .var (.int .i64) .pr false], some [.var (.int .i64) .pr false, .var .str .pr false, .var (.sl 8) (.own true) false, .var (.sl 8) (.own true) false, .var (.sl 5) (.own true) false, .var (.sl 7) (.own true) false, .var (.int .i64) .pr false]] 136 [] }
def b92_0 {R : Type} (G : ORC R) (k : Nat) (X : Int → List V → List V → List V → List V → Int → List V → List V → Int → Int → ByteArray → List V → List V → List V → List V → Int → Int → ByteArray → List V → List V → List V → List V → Int → Option R) (Ko : List V → List V → List V → List V → Int → List V → List V → Int → Int → ByteArray → List V → List V → List V → List V → Int → Int → ByteArray → List V → List V → List V → List V → Int → Option R) (xi41 : Int) (xl42 xl43 : List V) (xl44 xl45 : List V) (xi46 : Int) (xl47 xl48 : List V) (xi49 xi50 : Int) (xs51 : ByteArray) (xl52 xl53 : List V) (xl54 xl55 : List V) (xi56 xi57 : Int) (xs58 : ByteArray) (xl59 xl60 : List V) (xl61 xl62 : List V) (xi63 : Int) : Option R :=
  (bif (decide (xi41 > 0)) then (G 68 [(.int .i64 8), (.sl 1 xl48), (.int .i64 xi49)] fun o64 => (uI .i64 o64 fun n66 r65 => (uI .i64 r65 fun n68 r67 => (unNil r67 (G 107 [(.int .i64 n66)] fun o69 => (uS o69 fun s71 r70 => (unNil r70 (G 68 [(.int .i64 9), (.sl 1 xl48), (.int .i64 n68)] fun o72 => (uI .i64 o72 fun n74 r73 => (uI .i64 r73 fun n76 r75 => (unNil r75 (bif (n74 == 0) then (G 68 [(.int .i64 3), (.sl 1 xl48), (.int .i64 n76)] fun o77 => (uI .i64 o77 fun n79 r78 => (uI .i64 r78 fun n81 r80 => (unNil r80 (bif (n79 == 0) then (G 108 [(.agg [(.sl 1 xl42), (.sl 1 xl43), (.sl 1 xl44), (.sl 1 xl45)]), (.int .i64 2), (.sl 1 xl48), (.int .i64 n81)] fun o82 => (uA o82 fun l84 r83 => (uI .i64 l84 fun n86 r85 => (uI .i64 r85 fun n88 r87 => (uS r87 fun s90 r89 => (uL 5 r89 fun l92 r91 => (uI .i64 r91 fun n94 r93 => (unNil r93 (uI .i64 r83 fun n96 r95 => (unNil r95 (G 68 [(.int .i64 4), (.sl 1 xl48), (.int .i64 n96)] fun o97 => (uI .i64 o97 fun n99 r98 => (uI .i64 r98 fun n101 r100 => (unNil r100 (bif (decide (n99 > 0)) then (G 109 [(.sl 1 xl47), (.str ⟨#[]⟩), (.sl 1 xl48), (.int .i64 n101)] fun o102 => (uS o102 fun s104 r103 => (uI .i64 r103 fun n106 r105 => (unNil r105 (G 68 [(.int .i64 2), (.sl 1 xl48), (.int .i64 n106)] fun o107 => (uI .i64 o107 fun n109 r108 => (uI .i64 r108 fun n111 r110 => (unNil r110 (bif (n109 == 0) then (G 106 [(.agg [(.sl 1 xl42), (.sl 1 xl43), (.sl 1 xl44), (.sl 1 xl45)]), (.int .i64 2), (.sl 1 xl48), (.int .i64 n111)] fun o112 => (uL 8 o112 fun l114 r113 => (uI .i64 r113 fun n116 r115 => (unNil r115 (bif (decide (List.length xl54 + 1 ≤ 1073741824)) then (X (IntKind.i64.wrap (xi41 - 1)) xl42 xl43 xl44 xl45 xi46 xl47 xl48 n116 xi50 xs51 xl52 xl53 (xl54 ++ [(.agg [(.str ⟨#[]⟩), (.sl 5 [(.agg [(.int .i64 n86), (.int .i64 n88), (.str s90), (.sl 5 l92), (.int .i64 n94)])]), (.str s104), (.sl 8 l114), (.int .i64 0)])]) xl55 xi56 xi57 xs58 xl59 xl60 xl61 xl62 xi63) else none))))) else (bif (decide (List.length xl54 + 1 ≤ 1073741824)) then (X (IntKind.i64.wrap (xi41 - 1)) xl42 xl43 xl44 xl45 xi46 xl47 xl48 n111 xi50 xs51 xl52 xl53 (xl54 ++ [(.agg [(.str ⟨#[]⟩), (.sl 5 [(.agg [(.int .i64 n86), (.int .i64 n88), (.str s90), (.sl 5 l92), (.int .i64 n94)])]), (.str s104), (.sl 8 []), (.int .i64 0)])]) xl55 xi56 xi57 xs58 xl59 xl60 xl61 xl62 xi63) else none)))))))))) else (G 68 [(.int .i64 2), (.sl 1 xl48), (.int .i64 n101)] fun o117 => (uI .i64 o117 fun n119 r118 => (uI .i64 r118 fun n121 r120 => (unNil r120 (bif (n119 == 0) then (G 106 [(.agg [(.sl 1 xl42), (.sl 1 xl43), (.sl 1 xl44), (.sl 1 xl45)]), (.int .i64 2), (.sl 1 xl48), (.int .i64 n121)] fun o122 => (uL 8 o122 fun l124 r123 => (uI .i64 r123 fun n126 r125 => (unNil r125 (bif (decide (List.length xl54 + 1 ≤ 1073741824)) then (X (IntKind.i64.wrap (xi41 - 1)) xl42 xl43 xl44 xl45 xi46 xl47 xl48 n126 xi50 xs51 xl52 xl53 (xl54 ++ [(.agg [(.str ⟨#[]⟩), (.sl 5 [(.agg [(.int .i64 n86), (.int .i64 n88), (.str s90), (.sl 5 l92), (.int .i64 n94)])]), (.str ⟨#[]⟩), (.sl 8 l124), (.int .i64 0)])]) xl55 xi56 xi57 xs58 xl59 xl60 xl61 xl62 xi63) else none))))) else (bif (decide (List.length xl54 + 1 ≤ 1073741824)) then (X (IntKind.i64.wrap (xi41 - 1)) xl42 xl43 xl44 xl45 xi46 xl47 xl48 n121 xi50 xs51 xl52 xl53 (xl54 ++ [(.agg [(.str ⟨#[]⟩), (.sl 5 [(.agg [(.int .i64 n86), (.int .i64 n88), (.str s90), (.sl 5 l92), (.int .i64 n94)])]), (.str ⟨#[]⟩), (.sl 8 []), (.int .i64 0)])]) xl55 xi56 xi57 xs58 xl59 xl60 xl61 xl62 xi63) else none))))))))))))))))))))) else (G 68 [(.int .i64 4), (.sl 1 xl48), (.int .i64 n81)] fun o127 => (uI .i64 o127 fun n129 r128 => (uI .i64 r128 fun n131 r130 => (unNil r130 (bif (decide (n129 > 0)) then (G 109 [(.sl 1 xl47), (.str ⟨#[]⟩), (.sl 1 xl48), (.int .i64 n131)] fun o132 => (uS o132 fun s134 r133 => (uI .i64 r133 fun n136 r135 => (unNil r135 (G 68 [(.int .i64 2), (.sl 1 xl48), (.int .i64 n136)] fun o137 => (uI .i64 o137 fun n139 r138 => (uI .i64 r138 fun n141 r140 => (unNil r140 (bif (n139 == 0) then (G 106 [(.agg [(.sl 1 xl42), (.sl 1 xl43), (.sl 1 xl44), (.sl 1 xl45)]), (.int .i64 2), (.sl 1 xl48), (.int .i64 n141)] fun o142 => (uL 8 o142 fun l144 r143 => (uI .i64 r143 fun n146 r145 => (unNil r145 (bif (decide (List.length xl54 + 1 ≤ 1073741824)) then (X (IntKind.i64.wrap (xi41 - 1)) xl42 xl43 xl44 xl45 xi46 xl47 xl48 n146 xi50 xs51 xl52 xl53 (xl54 ++ [(.agg [(.str ⟨#[]⟩), (.sl 5 []), (.str s134), (.sl 8 l144), (.int .i64 0)])]) xl55 xi56 xi57 xs58 xl59 xl60 xl61 xl62 xi63) else none))))) else (bif (decide (List.length xl54 + 1 ≤ 1073741824)) then (X (IntKind.i64.wrap (xi41 - 1)) xl42 xl43 xl44 xl45 xi46 xl47 xl48 n141 xi50 xs51 xl52 xl53 (xl54 ++ [(.agg [(.str ⟨#[]⟩), (.sl 5 []), (.str s134), (.sl 8 []), (.int .i64 0)])]) xl55 xi56 xi57 xs58 xl59 xl60 xl61 xl62 xi63) else none)))))))))) else (G 68 [(.int .i64 2), (.sl 1 xl48), (.int .i64 n131)] fun o147 => (uI .i64 o147 fun n149 r148 => (uI .i64 r148 fun n151 r150 => (unNil r150 (bif (n149 == 0) then (G 106 [(.agg [(.sl 1 xl42), (.sl 1 xl43), (.sl 1 xl44), (.sl 1 xl45)]), (.int .i64 2), (.sl 1 xl48), (.int .i64 n151)] fun o152 => (uL 8 o152 fun l154 r153 => (uI .i64 r153 fun n156 r155 => (unNil r155 (bif (decide (List.length xl54 + 1 ≤ 1073741824)) then (X (IntKind.i64.wrap (xi41 - 1)) xl42 xl43 xl44 xl45 xi46 xl47 xl48 n156 xi50 xs51 xl52 xl53 (xl54 ++ [(.agg [(.str ⟨#[]⟩), (.sl 5 []), (.str ⟨#[]⟩), (.sl 8 l154), (.int .i64 0)])]) xl55 xi56 xi57 xs58 xl59 xl60 xl61 xl62 xi63) else none))))) else (bif (decide (List.length xl54 + 1 ≤ 1073741824)) then (X (IntKind.i64.wrap (xi41 - 1)) xl42 xl43 xl44 xl45 xi46 xl47 xl48 n151 xi50 xs51 xl52 xl53 (xl54 ++ [(.agg [(.str ⟨#[]⟩), (.sl 5 []), (.str ⟨#[]⟩), (.sl 8 []), (.int .i64 0)])]) xl55 xi56 xi57 xs58 xl59 xl60 xl61 xl62 xi63) else none)))))))))))))))) else (G 68 [(.int .i64 3), (.sl 1 xl48), (.int .i64 n76)] fun o157 => (uI .i64 o157 fun n159 r158 => (uI .i64 r158 fun n161 r160 => (unNil r160 (bif (n159 == 0) then (G 108 [(.agg [(.sl 1 xl42), (.sl 1 xl43), (.sl 1 xl44), (.sl 1 xl45)]), (.int .i64 2), (.sl 1 xl48), (.int .i64 n161)] fun o162 => (uA o162 fun l164 r163 => (uI .i64 l164 fun n166 r165 => (uI .i64 r165 fun n168 r167 => (uS r167 fun s170 r169 => (uL 5 r169 fun l172 r171 => (uI .i64 r171 fun n174 r173 => (unNil r173 (uI .i64 r163 fun n176 r175 => (unNil r175 (G 68 [(.int .i64 4), (.sl 1 xl48), (.int .i64 n176)] fun o177 => (uI .i64 o177 fun n179 r178 => (uI .i64 r178 fun n181 r180 => (unNil r180 (bif (decide (n179 > 0)) then (G 109 [(.sl 1 xl47), (.str ⟨#[]⟩), (.sl 1 xl48), (.int .i64 n181)] fun o182 => (uS o182 fun s184 r183 => (uI .i64 r183 fun n186 r185 => (unNil r185 (G 68 [(.int .i64 2), (.sl 1 xl48), (.int .i64 n186)] fun o187 => (uI .i64 o187 fun n189 r188 => (uI .i64 r188 fun n191 r190 => (unNil r190 (bif (n189 == 0) then (G 106 [(.agg [(.sl 1 xl42), (.sl 1 xl43), (.sl 1 xl44), (.sl 1 xl45)]), (.int .i64 2), (.sl 1 xl48), (.int .i64 n191)] fun o192 => (uL 8 o192 fun l194 r193 => (uI .i64 r193 fun n196 r195 => (unNil r195 (bif (decide (List.length xl54 + 1 ≤ 1073741824)) then (X (IntKind.i64.wrap (xi41 - 1)) xl42 xl43 xl44 xl45 xi46 xl47 xl48 n196 xi50 xs51 xl52 xl53 (xl54 ++ [(.agg [(.str s71), (.sl 5 [(.agg [(.int .i64 n166), (.int .i64 n168), (.str s170), (.sl 5 l172), (.int .i64 n174)])]), (.str s184), (.sl 8 l194), (.int .i64 0)])]) xl55 xi56 xi57 xs58 xl59 xl60 xl61 xl62 xi63) else none))))) else (bif (decide (List.length xl54 + 1 ≤ 1073741824)) then (X (IntKind.i64.wrap (xi41 - 1)) xl42 xl43 xl44 xl45 xi46 xl47 xl48 n191 xi50 xs51 xl52 xl53 (xl54 ++ [(.agg [(.str s71), (.sl 5 [(.agg [(.int .i64 n166), (.int .i64 n168), (.str s170), (.sl 5 l172), (.int .i64 n174)])]), (.str s184), (.sl 8 []), (.int .i64 0)])]) xl55 xi56 xi57 xs58 xl59 xl60 xl61 xl62 xi63) else none)))))))))) else (G 68 [(.int .i64 2), (.sl 1 xl48), (.int .i64 n181)] fun o197 => (uI .i64 o197 fun n199 r198 => (uI .i64 r198 fun n201 r200 => (unNil r200 (bif (n199 == 0) then (G 106 [(.agg [(.sl 1 xl42), (.sl 1 xl43), (.sl 1 xl44), (.sl 1 xl45)]), (.int .i64 2), (.sl 1 xl48), (.int .i64 n201)] fun o202 => (uL 8 o202 fun l204 r203 => (uI .i64 r203 fun n206 r205 => (unNil r205 (bif (decide (List.length xl54 + 1 ≤ 1073741824)) then (X (IntKind.i64.wrap (xi41 - 1)) xl42 xl43 xl44 xl45 xi46 xl47 xl48 n206 xi50 xs51 xl52 xl53 (xl54 ++ [(.agg [(.str s71), (.sl 5 [(.agg [(.int .i64 n166), (.int .i64 n168), (.str s170), (.sl 5 l172), (.int .i64 n174)])]), (.str ⟨#[]⟩), (.sl 8 l204), (.int .i64 0)])]) xl55 xi56 xi57 xs58 xl59 xl60 xl61 xl62 xi63) else none))))) else (bif (decide (List.length xl54 + 1 ≤ 1073741824)) then (X (IntKind.i64.wrap (xi41 - 1)) xl42 xl43 xl44 xl45 xi46 xl47 xl48 n201 xi50 xs51 xl52 xl53 (xl54 ++ [(.agg [(.str s71), (.sl 5 [(.agg [(.int .i64 n166), (.int .i64 n168), (.str s170), (.sl 5 l172), (.int .i64 n174)])]), (.str ⟨#[]⟩), (.sl 8 []), (.int .i64 0)])]) xl55 xi56 xi57 xs58 xl59 xl60 xl61 xl62 xi63) else none))))))))))))))))))))) else (G 68 [(.int .i64 4), (.sl 1 xl48), (.int .i64 n161)] fun o207 => (uI .i64 o207 fun n209 r208 => (uI .i64 r208 fun n211 r210 => (unNil r210 (bif (decide (n209 > 0)) then (G 109 [(.sl 1 xl47), (.str ⟨#[]⟩), (.sl 1 xl48), (.int .i64 n211)] fun o212 => (uS o212 fun s214 r213 => (uI .i64 r213 fun n216 r215 => (unNil r215 (G 68 [(.int .i64 2), (.sl 1 xl48), (.int .i64 n216)] fun o217 => (uI .i64 o217 fun n219 r218 => (uI .i64 r218 fun n221 r220 => (unNil r220 (bif (n219 == 0) then (G 106 [(.agg [(.sl 1 xl42), (.sl 1 xl43), (.sl 1 xl44), (.sl 1 xl45)]), (.int .i64 2), (.sl 1 xl48), (.int .i64 n221)] fun o222 => (uL 8 o222 fun l224 r223 => (uI .i64 r223 fun n226 r225 => (unNil r225 (bif (decide (List.length xl54 + 1 ≤ 1073741824)) then (X (IntKind.i64.wrap (xi41 - 1)) xl42 xl43 xl44 xl45 xi46 xl47 xl48 n226 xi50 xs51 xl52 xl53 (xl54 ++ [(.agg [(.str s71), (.sl 5 []), (.str s214), (.sl 8 l224), (.int .i64 0)])]) xl55 xi56 xi57 xs58 xl59 xl60 xl61 xl62 xi63) else none))))) else (bif (decide (List.length xl54 + 1 ≤ 1073741824)) then (X (IntKind.i64.wrap (xi41 - 1)) xl42 xl43 xl44 xl45 xi46 xl47 xl48 n221 xi50 xs51 xl52 xl53 (xl54 ++ [(.agg [(.str s71), (.sl 5 []), (.str s214), (.sl 8 []), (.int .i64 0)])]) xl55 xi56 xi57 xs58 xl59 xl60 xl61 xl62 xi63) else none)))))))))) else (G 68 [(.int .i64 2), (.sl 1 xl48), (.int .i64 n211)] fun o227 => (uI .i64 o227 fun n229 r228 => (uI .i64 r228 fun n231 r230 => (unNil r230 (bif (n229 == 0) then (G 106 [(.agg [(.sl 1 xl42), (.sl 1 xl43), (.sl 1 xl44), (.sl 1 xl45)]), (.int .i64 2), (.sl 1 xl48), (.int .i64 n231)] fun o232 => (uL 8 o232 fun l234 r233 => (uI .i64 r233 fun n236 r235 => (unNil r235 (bif (decide (List.length xl54 + 1 ≤ 1073741824)) then (X (IntKind.i64.wrap (xi41 - 1)) xl42 xl43 xl44 xl45 xi46 xl47 xl48 n236 xi50 xs51 xl52 xl53 (xl54 ++ [(.agg [(.str s71), (.sl 5 []), (.str ⟨#[]⟩), (.sl 8 l234), (.int .i64 0)])]) xl55 xi56 xi57 xs58 xl59 xl60 xl61 xl62 xi63) else none))))) else (bif (decide (List.length xl54 + 1 ≤ 1073741824)) then (X (IntKind.i64.wrap (xi41 - 1)) xl42 xl43 xl44 xl45 xi46 xl47 xl48 n231 xi50 xs51 xl52 xl53 (xl54 ++ [(.agg [(.str s71), (.sl 5 []), (.str ⟨#[]⟩), (.sl 8 []), (.int .i64 0)])]) xl55 xi56 xi57 xs58 xl59 xl60 xl61 xl62 xi63) else none)))))))))))))))))))))))))))) else (Ko xl42 xl43 xl44 xl45 xi46 xl47 xl48 xi49 xi50 xs51 xl52 xl53 xl54 xl55 xi56 xi57 xs58 xl59 xl60 xl61 xl62 xi63))
def l92_0g {R : Type} (G : ORC R) (k : Nat) (Ko : List V → List V → List V → List V → Int → List V → List V → Int → Int → ByteArray → List V → List V → List V → List V → Int → Int → ByteArray → List V → List V → List V → List V → Int → Option R) : Nat → Int → List V → List V → List V → List V → Int → List V → List V → Int → Int → ByteArray → List V → List V → List V → List V → Int → Int → ByteArray → List V → List V → List V → List V → Int → Option R
  | 0 => fun _ _ _ _ _ _ _ _ _ _ _ _ _ _ _ _ _ _ _ _ _ _ _ => none
  | j + 1 => b92_0 G k (l92_0g G k Ko j) Ko
def l92_0 {R : Type} (G : ORC R) (k : Nat) (xi41 : Int) (xl42 xl43 : List V) (xl44 xl45 : List V) (xi46 : Int) (xl47 xl48 : List V) (xi49 xi50 : Int) (xs51 : ByteArray) (xl52 xl53 : List V) (xl54 xl55 : List V) (xi56 xi57 : Int) (xs58 : ByteArray) (xl59 xl60 : List V) (xl61 xl62 : List V) (xi63 : Int) (Ko : List V → List V → List V → List V → Int → List V → List V → Int → Int → ByteArray → List V → List V → List V → List V → Int → Int → ByteArray → List V → List V → List V → List V → Int → Option R) : Option R := l92_0g G k Ko k xi41 xl42 xl43 xl44 xl45 xi46 xl47 xl48 xi49 xi50 xs51 xl52 xl53 xl54 xl55 xi56 xi57 xs58 xl59 xl60 xl61 xl62 xi63
def P92_2h : Pat := { tmps := unds [.stat (.one (.ptr 0 0) .pt), .undef, .undef, .stat (.one (.ptr 5 0) .pt), .stat (.one (.ptr 6 0) .pt), .undef, .undef, .var (.int .i64) .pr] 133 [], boxes := nons [some [.stat ⟨(.ptr 1 0), .pt, 0, true⟩, .var (.sl 1) .ro true, .var (.sl 1) .ro true, .var (.sl 1) .ro true, .var (.sl 1) .ro true, .var (.int .i64) .pr false, .var (.sl 1) .ro true], some [.var (.sl 1) .ro true, .var (.int .i64) .pr false], none, none, none, some [.var (.int .i64) .pr false, .var .str .pr false, .var (.sl 8) (.own true) false, .var (.sl 8) (.own true) false, .var (.sl 5) (.own true) false, .var (.sl 7) (.own true) false, .var (.int .i64) .pr false], some [.var (.int .i64) .pr false, .var .str .pr false, .var (.sl 8) (.own true) false, .var (.sl 8) (.own true) false, .var (.sl 5) (.own true) false, .var (.sl 7) (.own true) false, .var (.int .i64) .pr false]] 136 [] }
def P92_2x : Pat := { tmps := unds [.undef, .undef, .undef, .stat (.one (.ptr 5 0) .pt), .stat (.one (.ptr 6 0) .pt)] 136 [], boxes := nons [some [.stat ⟨(.ptr 1 0), .pt, 0, true⟩, .var (.sl 1) .ro true, .var (.sl 1) .ro true, .var (.sl 1) .ro true, .var (.sl 1) .ro true, .var (.int .i64) .pr false, .var (.sl 1) .ro true], some [.var (.sl 1) .ro true, .var (.int .i64) .pr false], none, none, none, some [.var (.int .i64) .pr false, .var .str .pr false, .var (.sl 8) (.own true) false, .var (.sl 8) (.own true) false, .var (.sl 5) (.own true) false, .var (.sl 7) (.own true) false, .var (.int .i64) .pr false], some [.var (.int .i64) .pr false, .var .str .pr false, .var (.sl 8) (.own true) false, .var (.sl 8) (.own true) false, .var (.sl 5) (.own true) false, .var (.sl 7) (.own true) false, .var (.int .i64) .pr false]] 136 [] }
def b92_2 {R : Type} (G : ORC R) (k : Nat) (X : Int → List V → List V → List V → List V → Int → List V → List V → Int → Int → ByteArray → List V → List V → List V → List V → Int → Int → ByteArray → List V → List V → List V → List V → Int → Option R) (Ko : List V → List V → List V → List V → Int → List V → List V → Int → Int → ByteArray → List V → List V → List V → List V → Int → Int → ByteArray → List V → List V → List V → List V → Int → Option R) (xi259 : Int) (xl260 xl261 : List V) (xl262 xl263 : List V) (xi264 : Int) (xl265 xl266 : List V) (xi267 xi268 : Int) (xs269 : ByteArray) (xl270 xl271 : List V) (xl272 xl273 : List V) (xi274 xi275 : Int) (xs276 : ByteArray) (xl277 xl278 : List V) (xl279 xl280 : List V) (xi281 : Int) : Option R :=
  (bif (decide (xi259 < ((List.length xl273 : Nat) : Int))) then (bif ((decide (0 ≤ xi259)) && (decide (xi259 < ((List.length xl273 : Nat) : Int)))) then (nthK xl273 (Int.toNat xi259) fun e282 => (V.asAgg e282 fun l283 => (G 92 [(.agg l283), (.sl 1 xl260), (.sl 1 xl261), (.sl 1 xl262), (.sl 1 xl263), (.int .i64 xi264), (.sl 1 xl265), (.sl 1 xl266), (.int .i64 xi267)] fun o284 => (uA o284 fun l286 r285 => (uI .i64 l286 fun n288 r287 => (uS r287 fun s290 r289 => (uL 8 r289 fun l292 r291 => (uL 8 r291 fun l294 r293 => (uL 5 r293 fun l296 r295 => (uL 7 r295 fun l298 r297 => (uI .i64 r297 fun n300 r299 => (unNil r299 (uI .i64 r285 fun n302 r301 => (uI .i64 r301 fun n304 r303 => (unNil r303 (bif ((decide (0 ≤ xi259)) && (decide (xi259 < ((List.length (List.set xl273 (Int.toNat xi259) .undef) : Nat) : Int)))) then (nthK (List.set xl273 (Int.toNat xi259) .undef) (Int.toNat xi259) fun e305 => (X (IntKind.i64.wrap (xi259 + 1)) xl260 xl261 xl262 xl263 n302 xl265 xl266 n304 xi268 xs269 xl270 xl271 xl272 (List.set (List.set xl273 (Int.toNat xi259) .undef) (Int.toNat xi259) (.agg [(.int .i64 n288), (.str s290), (.sl 8 l292), (.sl 8 l294), (.sl 5 l296), (.sl 7 l298), (.int .i64 n300)])) xi274 xi275 xs276 xl277 xl278 xl279 xl280 xi281)) else none)))))))))))))))) else none) else (Ko xl260 xl261 xl262 xl263 xi264 xl265 xl266 xi267 xi268 xs269 xl270 xl271 xl272 xl273 xi274 xi275 xs276 xl277 xl278 xl279 xl280 xi281))
def l92_2g {R : Type} (G : ORC R) (k : Nat) (Ko : List V → List V → List V → List V → Int → List V → List V → Int → Int → ByteArray → List V → List V → List V → List V → Int → Int → ByteArray → List V → List V → List V → List V → Int → Option R) : Nat → Int → List V → List V → List V → List V → Int → List V → List V → Int → Int → ByteArray → List V → List V → List V → List V → Int → Int → ByteArray → List V → List V → List V → List V → Int → Option R
  | 0 => fun _ _ _ _ _ _ _ _ _ _ _ _ _ _ _ _ _ _ _ _ _ _ _ => none
  | j + 1 => b92_2 G k (l92_2g G k Ko j) Ko
def l92_2 {R : Type} (G : ORC R) (k : Nat) (xi259 : Int) (xl260 xl261 : List V) (xl262 xl263 : List V) (xi264 : Int) (xl265 xl266 : List V) (xi267 xi268 : Int) (xs269 : ByteArray) (xl270 xl271 : List V) (xl272 xl273 : List V) (xi274 xi275 : Int) (xs276 : ByteArray) (xl277 xl278 : List V) (xl279 xl280 : List V) (xi281 : Int) (Ko : List V → List V → List V → List V → Int → List V → List V → Int → Int → ByteArray → List V → List V → List V → List V → Int → Int → ByteArray → List V → List V → List V → List V → Int → Option R) : Option R := l92_2g G k Ko k xi259 xl260 xl261 xl262 xl263 xi264 xl265 xl266 xi267 xi268 xs269 xl270 xl271 xl272 xl273 xi274 xi275 xs276 xl277 xl278 xl279 xl280 xi281
def rd92_0 {R : Type} (G : ORC R) (k : Nat) (K : Ex → St → Option R) (j : Nat) (vs : List V) : Option R := match vs with
  | [(.int .i64 xi41), (.sl 1 xl42), (.sl 1 xl43), (.sl 1 xl44), (.sl 1 xl45), (.int .i64 xi46), (.sl 1 xl47), (.sl 1 xl48), (.int .i64 xi49), (.int .i64 xi50), (.str xs51), (.sl 8 xl52), (.sl 8 xl53), (.sl 5 xl54), (.sl 7 xl55), (.int .i64 xi56), (.int .i64 xi57), (.str xs58), (.sl 8 xl59), (.sl 8 xl60), (.sl 5 xl61), (.sl 7 xl62), (.int .i64 xi63)] => l92_0g G k (fun yl485 yl486 yl487 yl488 yi489 yl490 yl491 yi492 yi493 ys494 yl495 yl496 yl497 yl498 yi499 yi500 ys501 yl502 yl503 yl504 yl505 yi506 => K .normal (P92_0x.inst [(.sl 1 yl485), (.sl 1 yl486), (.sl 1 yl487), (.sl 1 yl488), (.int .i64 yi489), (.sl 1 yl490), (.sl 1 yl491), (.int .i64 yi492), (.int .i64 yi493), (.str ys494), (.sl 8 yl495), (.sl 8 yl496), (.sl 5 yl497), (.sl 7 yl498), (.int .i64 yi499), (.int .i64 yi500), (.str ys501), (.sl 8 yl502), (.sl 8 yl503), (.sl 5 yl504), (.sl 7 yl505), (.int .i64 yi506)])) j xi41 xl42 xl43 xl44 xl45 xi46 xl47 xl48 xi49 xi50 xs51 xl52 xl53 xl54 xl55 xi56 xi57 xs58 xl59 xl60 xl61 xl62 xi63
  | _ => none
def rd92_2 {R : Type} (G : ORC R) (k : Nat) (K : Ex → St → Option R) (j : Nat) (vs : List V) : Option R := match vs with
  | [(.int .i64 xi259), (.sl 1 xl260), (.sl 1 xl261), (.sl 1 xl262), (.sl 1 xl263), (.int .i64 xi264), (.sl 1 xl265), (.sl 1 xl266), (.int .i64 xi267), (.int .i64 xi268), (.str xs269), (.sl 8 xl270), (.sl 8 xl271), (.sl 5 xl272), (.sl 7 xl273), (.int .i64 xi274), (.int .i64 xi275), (.str xs276), (.sl 8 xl277), (.sl 8 xl278), (.sl 5 xl279), (.sl 7 xl280), (.int .i64 xi281)] => l92_2g G k (fun yl507 yl508 yl509 yl510 yi511 yl512 yl513 yi514 yi515 ys516 yl517 yl518 yl519 yl520 yi521 yi522 ys523 yl524 yl525 yl526 yl527 yi528 => K .normal (P92_2x.inst [(.sl 1 yl507), (.sl 1 yl508), (.sl 1 yl509), (.sl 1 yl510), (.int .i64 yi511), (.sl 1 yl512), (.sl 1 yl513), (.int .i64 yi514), (.int .i64 yi515), (.str ys516), (.sl 8 yl517), (.sl 8 yl518), (.sl 5 yl519), (.sl 7 yl520), (.int .i64 yi521), (.int .i64 yi522), (.str ys523), (.sl 8 yl524), (.sl 8 yl525), (.sl 5 yl526), (.sl 7 yl527), (.int .i64 yi528)])) j xi259 xl260 xl261 xl262 xl263 xi264 xl265 xl266 xi267 xi268 xs269 xl270 xl271 xl272 xl273 xi274 xi275 xs276 xl277 xl278 xl279 xl280 xi281
  | _ => none
def L92 {R : Type} (G : ORC R) (k : Nat) : Nat → St → (Ex → St → Option R) → Option R
  | 0, S, K => P92_0h.mat S fun vs => rd92_0 G k K k vs
  | 2, S, K => P92_2h.mat S fun vs => rd92_2 G k K k vs
  | _, _, _ => none
def f92 {R : Type} (G : ORC R) (k : Nat) (ai1 : Int) (as2 : ByteArray) (al3 al4 : List V) (al5 al6 : List V) (ai7 : Int) (bl8 bl9 : List V) (bl10 bl11 : List V) (bi12 : Int) (bl13 bl14 : List V) (bi15 : Int) (K : List V → Option R) : Option R :=
  (bif (decide (ai1 > 2)) then (K [(.agg [(.int .i64 ai1), (.str as2), (.sl 8 al3), (.sl 8 al4), (.sl 5 al5), (.sl 7 al6), (.int .i64 ai7)]), (.int .i64 bi12), (.int .i64 bi15)]) else (G 68 [(.int .i64 3), (.sl 1 bl14), (.int .i64 bi15)] fun o16 => (uI .i64 o16 fun n18 r17 => (uI .i64 r17 fun n20 r19 => (unNil r19 (bif (n18 == 0) then (G 106 [(.agg [(.sl 1 bl8), (.sl 1 bl9), (.sl 1 bl10), (.sl 1 bl11)]), (.int .i64 1), (.sl 1 bl14), (.int .i64 n20)] fun o21 => (uL 8 o21 fun l23 r22 => (uI .i64 r22 fun n25 r24 => (unNil r24 (G 68 [(.int .i64 4), (.sl 1 bl14), (.int .i64 n25)] fun o26 => (uI .i64 o26 fun n28 r27 => (uI .i64 r27 fun n30 r29 => (unNil r29 (bif (n28 == 0) then (G 106 [(.agg [(.sl 1 bl8), (.sl 1 bl9), (.sl 1 bl10), (.sl 1 bl11)]), (.int .i64 1), (.sl 1 bl14), (.int .i64 n30)] fun o31 => (uL 8 o31 fun l33 r32 => (uI .i64 r32 fun n35 r34 => (unNil r34 (G 68 [(.int .i64 3), (.sl 1 bl14), (.int .i64 n35)] fun o36 => (uI .i64 o36 fun n38 r37 => (uI .i64 r37 fun n40 r39 => (unNil r39 (l92_0 G k n38 bl8 bl9 bl10 bl11 bi12 bl13 bl14 n40 ai1 as2 l23 l33 al5 al6 ai7 0 ⟨#[]⟩ [] [] [] [] 0 (fun yl237 yl238 yl239 yl240 yi241 yl242 yl243 yi244 yi245 ys246 yl247 yl248 yl249 yl250 yi251 yi252 ys253 yl254 yl255 yl256 yl257 yi258 => (l92_2 G k 0 yl237 yl238 yl239 yl240 yi241 yl242 yl243 yi244 yi245 ys246 yl247 yl248 yl249 yl250 yi251 yi252 ys253 yl254 yl255 yl256 yl257 yi258 (fun yl306 yl307 yl308 yl309 yi310 yl311 yl312 yi313 yi314 ys315 yl316 yl317 yl318 yl319 yi320 yi321 ys322 yl323 yl324 yl325 yl326 yi327 => (K [(.agg [(.int .i64 yi314), (.str ys315), (.sl 8 yl316), (.sl 8 yl317), (.sl 5 yl318), (.sl 7 yl319), (.int .i64 yi320)]), (.int .i64 yi310), (.int .i64 yi313)]))))))))))))) else (G 68 [(.int .i64 3), (.sl 1 bl14), (.int .i64 n30)] fun o328 => (uI .i64 o328 fun n330 r329 => (uI .i64 r329 fun n332 r331 => (unNil r331 (l92_0 G k n330 bl8 bl9 bl10 bl11 bi12 bl13 bl14 n332 ai1 as2 l23 al4 al5 al6 ai7 0 ⟨#[]⟩ [] [] [] [] 0 (fun yl333 yl334 yl335 yl336 yi337 yl338 yl339 yi340 yi341 ys342 yl343 yl344 yl345 yl346 yi347 yi348 ys349 yl350 yl351 yl352 yl353 yi354 => (l92_2 G k 0 yl333 yl334 yl335 yl336 yi337 yl338 yl339 yi340 yi341 ys342 yl343 yl344 yl345 yl346 yi347 yi348 ys349 yl350 yl351 yl352 yl353 yi354 (fun yl355 yl356 yl357 yl358 yi359 yl360 yl361 yi362 yi363 ys364 yl365 yl366 yl367 yl368 yi369 yi370 ys371 yl372 yl373 yl374 yl375 yi376 => (K [(.agg [(.int .i64 yi363), (.str ys364), (.sl 8 yl365), (.sl 8 yl366), (.sl 5 yl367), (.sl 7 yl368), (.int .i64 yi369)]), (.int .i64 yi359), (.int .i64 yi362)])))))))))))))))))) else (G 68 [(.int .i64 4), (.sl 1 bl14), (.int .i64 n20)] fun o377 => (uI .i64 o377 fun n379 r378 => (uI .i64 r378 fun n381 r380 => (unNil r380 (bif (n379 == 0) then (G 106 [(.agg [(.sl 1 bl8), (.sl 1 bl9), (.sl 1 bl10), (.sl 1 bl11)]), (.int .i64 1), (.sl 1 bl14), (.int .i64 n381)] fun o382 => (uL 8 o382 fun l384 r383 => (uI .i64 r383 fun n386 r385 => (unNil r385 (G 68 [(.int .i64 3), (.sl 1 bl14), (.int .i64 n386)] fun o387 => (uI .i64 o387 fun n389 r388 => (uI .i64 r388 fun n391 r390 => (unNil r390 (l92_0 G k n389 bl8 bl9 bl10 bl11 bi12 bl13 bl14 n391 ai1 as2 al3 l384 al5 al6 ai7 0 ⟨#[]⟩ [] [] [] [] 0 (fun yl392 yl393 yl394 yl395 yi396 yl397 yl398 yi399 yi400 ys401 yl402 yl403 yl404 yl405 yi406 yi407 ys408 yl409 yl410 yl411 yl412 yi413 => (l92_2 G k 0 yl392 yl393 yl394 yl395 yi396 yl397 yl398 yi399 yi400 ys401 yl402 yl403 yl404 yl405 yi406 yi407 ys408 yl409 yl410 yl411 yl412 yi413 (fun yl414 yl415 yl416 yl417 yi418 yl419 yl420 yi421 yi422 ys423 yl424 yl425 yl426 yl427 yi428 yi429 ys430 yl431 yl432 yl433 yl434 yi435 => (K [(.agg [(.int .i64 yi422), (.str ys423), (.sl 8 yl424), (.sl 8 yl425), (.sl 5 yl426), (.sl 7 yl427), (.int .i64 yi428)]), (.int .i64 yi418), (.int .i64 yi421)]))))))))))))) else (G 68 [(.int .i64 3), (.sl 1 bl14), (.int .i64 n381)] fun o436 => (uI .i64 o436 fun n438 r437 => (uI .i64 r437 fun n440 r439 => (unNil r439 (l92_0 G k n438 bl8 bl9 bl10 bl11 bi12 bl13 bl14 n440 ai1 as2 al3 al4 al5 al6 ai7 0 ⟨#[]⟩ [] [] [] [] 0 (fun yl441 yl442 yl443 yl444 yi445 yl446 yl447 yi448 yi449 ys450 yl451 yl452 yl453 yl454 yi455 yi456 ys457 yl458 yl459 yl460 yl461 yi462 => (l92_2 G k 0 yl441 yl442 yl443 yl444 yi445 yl446 yl447 yi448 yi449 ys450 yl451 yl452 yl453 yl454 yi455 yi456 ys457 yl458 yl459 yl460 yl461 yi462 (fun yl463 yl464 yl465 yl466 yi467 yl468 yl469 yi470 yi471 ys472 yl473 yl474 yl475 yl476 yi477 yi478 ys479 yl480 yl481 yl482 yl483 yi484 => (K [(.agg [(.int .i64 yi471), (.str ys472), (.sl 8 yl473), (.sl 8 yl474), (.sl 5 yl475), (.sl 7 yl476), (.int .i64 yi477)]), (.int .i64 yi467), (.int .i64 yi470)]))))))))))))))))))))
noncomputable def D92_0 : LoopD := { id := 0, body := loopAt 0 (bodyOf Try.f92), head := P92_0h, out := P92_0x, ret := default }
theorem l92_0_is {R : Type} (G : ORC R) (k : Nat) (X : List V → Option R) (K : Ex → St → Option R) (xi41 : Int) (xl42 xl43 : List V) (xl44 xl45 : List V) (xi46 : Int) (xl47 xl48 : List V) (xi49 xi50 : Int) (xs51 : ByteArray) (xl52 xl53 : List V) (xl54 xl55 : List V) (xi56 xi57 : Int) (xs58 : ByteArray) (xl59 xl60 : List V) (xl61 xl62 : List V) (xi63 : Int) :
    roundOf (TAB.env 92) G (L92 G k) D92_0 X K [(.int .i64 xi41), (.sl 1 xl42), (.sl 1 xl43), (.sl 1 xl44), (.sl 1 xl45), (.int .i64 xi46), (.sl 1 xl47), (.sl 1 xl48), (.int .i64 xi49), (.int .i64 xi50), (.str xs51), (.sl 8 xl52), (.sl 8 xl53), (.sl 5 xl54), (.sl 7 xl55), (.int .i64 xi56), (.int .i64 xi57), (.str xs58), (.sl 8 xl59), (.sl 8 xl60), (.sl 5 xl61), (.sl 7 xl62), (.int .i64 xi63)] = b92_0 G k (fun xi41 xl42 xl43 xl44 xl45 xi46 xl47 xl48 xi49 xi50 xs51 xl52 xl53 xl54 xl55 xi56 xi57 xs58 xl59 xl60 xl61 xl62 xi63 => X [(.int .i64 xi41), (.sl 1 xl42), (.sl 1 xl43), (.sl 1 xl44), (.sl 1 xl45), (.int .i64 xi46), (.sl 1 xl47), (.sl 1 xl48), (.int .i64 xi49), (.int .i64 xi50), (.str xs51), (.sl 8 xl52), (.sl 8 xl53), (.sl 5 xl54), (.sl 7 xl55), (.int .i64 xi56), (.int .i64 xi57), (.str xs58), (.sl 8 xl59), (.sl 8 xl60), (.sl 5 xl61), (.sl 7 xl62), (.int .i64 xi63)]) (fun yl485 yl486 yl487 yl488 yi489 yl490 yl491 yi492 yi493 ys494 yl495 yl496 yl497 yl498 yi499 yi500 ys501 yl502 yl503 yl504 yl505 yi506 => K .normal (P92_0x.inst [(.sl 1 yl485), (.sl 1 yl486), (.sl 1 yl487), (.sl 1 yl488), (.int .i64 yi489), (.sl 1 yl490), (.sl 1 yl491), (.int .i64 yi492), (.int .i64 yi493), (.str ys494), (.sl 8 yl495), (.sl 8 yl496), (.sl 5 yl497), (.sl 7 yl498), (.int .i64 yi499), (.int .i64 yi500), (.str ys501), (.sl 8 yl502), (.sl 8 yl503), (.sl 5 yl504), (.sl 7 yl505), (.int .i64 yi506)])) xi41 xl42 xl43 xl44 xl45 xi46 xl47 xl48 xi49 xi50 xs51 xl52 xl53 xl54 xl55 xi56 xi57 xs58 xl59 xl60 xl61 xl62 xi63 := by kernel_rfl
noncomputable def D92_2 : LoopD := { id := 2, body := loopAt 2 (bodyOf Try.f92), head := P92_2h, out := P92_2x, ret := default }
theorem l92_2_is {R : Type} (G : ORC R) (k : Nat) (X : List V → Option R) (K : Ex → St → Option R) (xi259 : Int) (xl260 xl261 : List V) (xl262 xl263 : List V) (xi264 : Int) (xl265 xl266 : List V) (xi267 xi268 : Int) (xs269 : ByteArray) (xl270 xl271 : List V) (xl272 xl273 : List V) (xi274 xi275 : Int) (xs276 : ByteArray) (xl277 xl278 : List V) (xl279 xl280 : List V) (xi281 : Int) :
    roundOf (TAB.env 92) G (L92 G k) D92_2 X K [(.int .i64 xi259), (.sl 1 xl260), (.sl 1 xl261), (.sl 1 xl262), (.sl 1 xl263), (.int .i64 xi264), (.sl 1 xl265), (.sl 1 xl266), (.int .i64 xi267), (.int .i64 xi268), (.str xs269), (.sl 8 xl270), (.sl 8 xl271), (.sl 5 xl272), (.sl 7 xl273), (.int .i64 xi274), (.int .i64 xi275), (.str xs276), (.sl 8 xl277), (.sl 8 xl278), (.sl 5 xl279), (.sl 7 xl280), (.int .i64 xi281)] = b92_2 G k (fun xi259 xl260 xl261 xl262 xl263 xi264 xl265 xl266 xi267 xi268 xs269 xl270 xl271 xl272 xl273 xi274 xi275 xs276 xl277 xl278 xl279 xl280 xi281 => X [(.int .i64 xi259), (.sl 1 xl260), (.sl 1 xl261), (.sl 1 xl262), (.sl 1 xl263), (.int .i64 xi264), (.sl 1 xl265), (.sl 1 xl266), (.int .i64 xi267), (.int .i64 xi268), (.str xs269), (.sl 8 xl270), (.sl 8 xl271), (.sl 5 xl272), (.sl 7 xl273), (.int .i64 xi274), (.int .i64 xi275), (.str xs276), (.sl 8 xl277), (.sl 8 xl278), (.sl 5 xl279), (.sl 7 xl280), (.int .i64 xi281)]) (fun yl507 yl508 yl509 yl510 yi511 yl512 yl513 yi514 yi515 ys516 yl517 yl518 yl519 yl520 yi521 yi522 ys523 yl524 yl525 yl526 yl527 yi528 => K .normal (P92_2x.inst [(.sl 1 yl507), (.sl 1 yl508), (.sl 1 yl509), (.sl 1 yl510), (.int .i64 yi511), (.sl 1 yl512), (.sl 1 yl513), (.int .i64 yi514), (.int .i64 yi515), (.str ys516), (.sl 8 yl517), (.sl 8 yl518), (.sl 5 yl519), (.sl 7 yl520), (.int .i64 yi521), (.int .i64 yi522), (.str ys523), (.sl 8 yl524), (.sl 8 yl525), (.sl 5 yl526), (.sl 7 yl527), (.int .i64 yi528)])) xi259 xl260 xl261 xl262 xl263 xi264 xl265 xl266 xi267 xi268 xs269 xl270 xl271 xl272 xl273 xi274 xi275 xs276 xl277 xl278 xl279 xl280 xi281 := by kernel_rfl
theorem f92_is {R : Type} (G : ORC R) (k : Nat) (K : List V → Option R) (ai1 : Int) (as2 : ByteArray) (al3 al4 : List V) (al5 al6 : List V) (ai7 : Int) (bl8 bl9 : List V) (bl10 bl11 : List V) (bi12 : Int) (bl13 bl14 : List V) (bi15 : Int) :
    callF (TAB.env 92) G (L92 G k) Try.f92 S92 [(.agg [(.int .i64 ai1), (.str as2), (.sl 8 al3), (.sl 8 al4), (.sl 5 al5), (.sl 7 al6), (.int .i64 ai7)]), (.sl 1 bl8), (.sl 1 bl9), (.sl 1 bl10), (.sl 1 bl11), (.int .i64 bi12), (.sl 1 bl13), (.sl 1 bl14), (.int .i64 bi15)] K = f92 G k ai1 as2 al3 al4 al5 al6 ai7 bl8 bl9 bl10 bl11 bi12 bl13 bl14 bi15 K := by kernel_rfl
theorem li92_0 {R : Type} (G : ORC R) (k : Nat) : LoopIs (TAB.env 92) G (L92 G k) 0 (loopAt 0 (bodyOf Try.f92)) :=
  ⟨D92_0, fun j vs K => rd92_0 G k K j vs, k, rfl, rfl, by kernel_rfl, by kernel_rfl, by kernel_rfl, (fun vs K => by unfold rd92_0; dsimp only; split <;> rfl),
    (fun j vs K r h => by
      unfold rd92_0 at h
      dsimp only at h
      split at h
      · rw [l92_0_is]; exact h
      · cases h), (fun S K r h => h)⟩
theorem li92_2 {R : Type} (G : ORC R) (k : Nat) : LoopIs (TAB.env 92) G (L92 G k) 2 (loopAt 2 (bodyOf Try.f92)) :=
  ⟨D92_2, fun j vs K => rd92_2 G k K j vs, k, rfl, rfl, by kernel_rfl, by kernel_rfl, by kernel_rfl, (fun vs K => by unfold rd92_2; dsimp only; split <;> rfl),
    (fun j vs K r h => by
      unfold rd92_2 at h
      dsimp only at h
      split at h
      · rw [l92_2_is]; exact h
      · cases h), (fun S K r h => h)⟩
theorem lo92 : loopsOf (bodyOf Try.f92) = [(0, loopAt 0 (bodyOf Try.f92)), (2, loopAt 2 (bodyOf Try.f92))] := by kernel_rfl
theorem la92 {R : Type} (G : ORC R) (k : Nat) : LoopsAre (TAB.env 92) G (L92 G k) (bodyOf Try.f92) :=
  loopsAre_of (by rw [lo92]; intro p hp; simp only [List.mem_cons, List.not_mem_nil, or_false] at hp; rcases hp with rfl | rfl <;> first | exact li92_0 G k | exact li92_2 G k)
def g92 {R : Type} (G : ORC R) (k : Nat) (args : List V) (K : List V → Option R) : Option R := match args with
  | [(.agg [(.int .i64 ai1), (.str as2), (.sl 8 al3), (.sl 8 al4), (.sl 5 al5), (.sl 7 al6), (.int .i64 ai7)]), (.sl 1 bl8), (.sl 1 bl9), (.sl 1 bl10), (.sl 1 bl11), (.int .i64 bi12), (.sl 1 bl13), (.sl 1 bl14), (.int .i64 bi15)] => f92 G k ai1 as2 al3 al4 al5 al6 ai7 bl8 bl9 bl10 bl11 bi12 bl13 bl14 bi15 K
  | _ => none
theorem s92 {R : Type} {G : ORC R} {k : Nat} (hG : Sound Try.prog TAB G) (args : List V) (K : List V → Option R) (r : R) (h : g92 G k args K = some r) : ∃ o, CallOK Try.prog TAB.env 92 args o ∧ K o = some r := by
  unfold g92 at h
  split at h
  · rw [← f92_is] at h
    exact callF_sound (f := 92) TAB_chk MO hG Try.func92 (sg := S92) (by kernel_rfl) (by kernel_rfl) (la92 G k) h
  · cases h
end Go.Proofs.Ytblabbcmokldiaa.Vm
open Go Go.VM
set_option linter.unusedVariables false
set_option maxRecDepth 100000
set_option maxHeartbeats 8000000
namespace Go.Proofs.Ytblabbcmokldiaa.Vm
section
variable {R : Type} {G : ORC R} {k : Nat} {K : List V → Option R}
def FillOK (d : Nat) (G : ORC R) : Prop := ∀ (x : V) (a p c s all L : List V) (left i : Int) (K : List V → Option R), StateS 0 d x → StrsS 100 a → StrsS 100 p → StrsS 100 c → StrsS 100 s → NmsS all → all.length ≤ 20 → RowS L i →
  W (fun o => ∃ y j, o = [y, .int .i64 left, .int .i64 j] ∧ StateS 2 d y ∧ kindV y = kindV x ∧ RowS L j ∧ nmV d y = nmV d x) K
    (G 92 [x, .sl 1 a, .sl 1 p, .sl 1 c, .sl 1 s, .int .i64 left, .sl 1 all, .sl 1 L, .int .i64 i] K)
theorem trans_mk {ev tg : ByteArray} {gd acts : List V} (h1 : StrS ev) (h2 : StrS tg) (h3 : gd.length ≤ 1) (h4 : ∀ e ∈ gd, ExprS 3 e) (h5 : BlockS 3 acts) : TransS (.agg [.str ev, .sl 5 gd, .str tg, .sl 8 acts, .int .i64 0]) := ⟨ev, gd, tg, acts, rfl, h1, h2, h3, h4, h5⟩
theorem tr_round (hN : NextS G) (hPk : PickS G) (hEv : EventS G) (hE : ExprOK 2 G) (hB : BlockOK 2 G) {Q : List V → Prop} {K : List V → Option R} {a p c s all L h1 h2 h3 h4 en ex tr kids : List V} {left h0 h5 kind z n i : Int} {hs nm : ByteArray}
    (X : Int → List V → List V → List V → List V → Int → List V → List V → Int → Int → ByteArray → List V → List V → List V → List V → Int → Int → ByteArray → List V → List V → List V → List V → Int → Option R) (Ko : List V → List V → List V → List V → Int → List V → List V → Int → Int → ByteArray → List V → List V → List V → List V → Int → Int → ByteArray → List V → List V → List V → List V → Int → Option R)
    (ha : StrsS 100 a) (hp : StrsS 100 p) (hc : StrsS 100 c) (hss : StrsS 100 s) (hal : StrsS 100 all) (hr : RowS L i) (hn : n > 0) (htr : tr.length ≤ 2)
    (hX1 : ∀ v j, TransS v → RowS L j → W Q K (X (IntKind.i64.wrap (n - 1)) a p c s left all L j kind nm en ex (tr ++ [v]) kids z h0 hs h1 h2 h3 h4 h5)) :
    W Q K (b92_0 G k X Ko n a p c s left all L i kind nm en ex tr kids z h0 hs h1 h2 h3 h4 h5) := by
  unfold b92_0
  unfold NextS at hN; unfold PickS at hPk; unfold EventS at hEv; unfold ExprOK at hE; unfold BlockOK at hB
  refine W_yes hn ?_
  repeat' (first
      | with_reducible (first | (refine W_uI ?_) | (refine W_uS ?_) | (refine W_uL ?_) | (refine W_uA ?_) | (refine W_uB ?_) | (refine W_aI ?_) | (refine W_aL ?_) | (refine W_ca3 ?_) | (refine W_ce3 ?_) | (refine W_ca4 ?_) | (refine W_ce4 ?_) | (refine W_ca5 ?_) | (refine W_ce5 ?_) | (refine W_ca6 ?_) | (refine W_ce6 ?_) | (refine W_ca7 ?_) | (refine W_ce7 ?_) | (refine W_ca8 ?_) | (refine W_ce8 ?_) | (refine W_unCons ?_) | (refine W_unNil ?_) | (refine W_asInt ?_) | (refine W_asStr ?_) | (refine W_asSl ?_) | (refine W_asAgg ?_) | (refine W_kd ?_) | (refine W_z ?_))
      | ((with_reducible (refine W_call (hN _ _ _ _ ?_ ?_ (by assumption)) ?_)); omega; omega; rintro _ ⟨_, _, rfl, _, _, _⟩)
      | ((with_reducible (refine W_call (hPk _ _ _ _ 100 _ (by assumption) ?_ strs0 (by assumption)) ?_)); omega; rintro _ ⟨_, _, rfl, _, _, _⟩)
      | ((with_reducible (refine W_call (hEv _ _) ?_)); rintro _ ⟨_, rfl, _⟩)
      | ((with_reducible (refine W_call (hE _ _ _ _ _ _ _ _ ?_ (by assumption) (by assumption) (by assumption)) ?_)); (rfl); rintro _ ⟨_, _, rfl, he, _⟩; have he2 := one_mem he; obtain ⟨_, _, _, _, rfl, _⟩ := he)
      | ((with_reducible (refine W_call (hB _ _ _ _ _ _ _ _ ?_ (by assumption) (by assumption) (by assumption) (by assumption) (by assumption)) ?_)); (rfl); rintro _ ⟨_, _, rfl, _, _⟩)
      | ((with_reducible (refine W_yes ?_ ?_)); omega)
      | (with_reducible (refine W_dec (fun _ => ?_) (fun _ => ?_))) | (with_reducible (refine W_beqI (fun _ => ?_) (fun _ => ?_)))
      | ((with_reducible (refine hX1 _ _ ?_ (by assumption)));
         exact trans_mk (by first | assumption | exact strs0) (by first | assumption | exact strs0) (by first | exact Nat.le_refl 1 | exact Nat.zero_le 1) (by first | assumption | simp) (by first | assumption | exact block0)))
theorem tr_loop (hN : NextS G) (hPk : PickS G) (hEv : EventS G) (hE : ExprOK 2 G) (hB : BlockOK 2 G) {Q : List V → Prop} {K : List V → Option R} {a p c s all L h1 h2 h3 h4 en ex kids : List V} {left h0 h5 kind z : Int} {hs nm : ByteArray}
    {Ko : List V → List V → List V → List V → Int → List V → List V → Int → Int → ByteArray → List V → List V → List V → List V → Int → Int → ByteArray → List V → List V → List V → List V → Int → Option R}
    (ha : StrsS 100 a) (hp : StrsS 100 p) (hc : StrsS 100 c) (hss : StrsS 100 s) (hal : StrsS 100 all)
    (hKo : ∀ tr j, tr.length ≤ 2 → (∀ t ∈ tr, TransS t) → RowS L j → W Q K (Ko a p c s left all L j kind nm en ex tr kids z h0 hs h1 h2 h3 h4 h5)) :
    ∀ (j : Nat) (n i : Int) (tr : List V), n < j → 0 ≤ n → (tr.length : Int) + n ≤ 2 → (∀ t ∈ tr, TransS t) → RowS L i → W Q K (l92_0g G k Ko j n a p c s left all L i kind nm en ex tr kids z h0 hs h1 h2 h3 h4 h5)
  | 0, n, i, tr, a1, a2, a3, a4, a5 => by omega
  | j + 1, n, i, tr, a1, a2, a3, a4, a5 => by
    show W Q K (b92_0 G k (l92_0g G k Ko j) Ko n a p c s left all L i kind nm en ex tr kids z h0 hs h1 h2 h3 h4 h5)
    by_cases hn : n > 0
    · refine tr_round hN hPk hEv hE hB _ _ ha hp hc hss hal a5 hn (by omega) (fun v j' hv hj => ?_)
      rw [wrap_id (n := n - 1) (by omega)]
      exact tr_loop hN hPk hEv hE hB ha hp hc hss hal hKo j _ _ _ (by omega) (by omega) (by simp; omega) (mem_snoc a4 hv) hj
    · unfold b92_0
      exact W_no hn (hKo tr i (by omega) a4 a5)
theorem set2 {A B : List V} {b u y : V} : List.set (List.set (A ++ b :: B) A.length u) A.length y = A ++ y :: B := by simp
def kn (d : Nat) (v : V) : Int × List V := (kindV v, nmV d v)
theorem kn_eq {d : Nat} {x y : V} (h : kindV y = kindV x) (h' : nmV d y = nmV d x) : kn d y = kn d x := Prod.ext h h'
theorem kid_loop {d : Nat} (hF : FillOK d G) {Q : List V → Prop} {K : List V → Option R} {a p c s all L h1 h2 h3 h4 en ex tr : List V} {left h0 h5 kind z : Int} {hs nm : ByteArray} {ks : List (Int × List V)}
    {Ko : List V → List V → List V → List V → Int → List V → List V → Int → Int → ByteArray → List V → List V → List V → List V → Int → Int → ByteArray → List V → List V → List V → List V → Int → Option R}
    (ha : StrsS 100 a) (hp : StrsS 100 p) (hc : StrsS 100 c) (hss : StrsS 100 s) (hal : NmsS all) (hal2 : all.length ≤ 20)
    (hKo : ∀ kids j, kids.map (kn d) = ks → (∀ t ∈ kids, StateS 2 d t) → RowS L j → W Q K (Ko a p c s left all L j kind nm en ex tr kids z h0 hs h1 h2 h3 h4 h5)) :
    ∀ (B A : List V) (j : Nat) (i : Int), B.length < j → A.length + B.length ≤ 4 → (∀ t ∈ A, StateS 2 d t) → (∀ t ∈ B, StateS 0 d t) → (A ++ B).map (kn d) = ks → RowS L i →
      W Q K (l92_2g G k Ko j (A.length : Int) a p c s left all L i kind nm en ex tr (A ++ B) z h0 hs h1 h2 h3 h4 h5)
  | B, A, 0, i, a1, a2, a3, a4, a5, a6 => by omega
  | [], A, j + 1, i, a1, a2, a3, a4, a5, a6 => by
    show W Q K (b92_2 G k (l92_2g G k Ko j) Ko (A.length : Int) a p c s left all L i kind nm en ex tr (A ++ []) z h0 hs h1 h2 h3 h4 h5)
    unfold b92_2
    refine W_no (by simp) ?_
    rw [List.append_nil] at a5 ⊢
    exact hKo A i a5 a3 a6
  | b :: B, A, j + 1, i, a1, a2, a3, a4, a5, a6 => by
    show W Q K (b92_2 G k (l92_2g G k Ko j) Ko (A.length : Int) a p c s left all L i kind nm en ex tr (A ++ b :: B) z h0 hs h1 h2 h3 h4 h5)
    unfold b92_2
    simp only [List.length_cons] at a1 a2
    have hlt : (A.length : Int) < (((A ++ b :: B).length : Nat) : Int) := by simp; omega
    refine W_yes hlt (W_and (W_yes (by omega) (W_yes hlt ?_)))
    refine W_nth (by omega) (fun v hv _ => ?_)
    have hvb : v = b := by simp at hv; exact hv.symm
    subst hvb
    have hb := a4 v List.mem_cons_self
    have hbk := hb
    cases d with
    | zero => exact hb.elim
    | succ d =>
    obtain ⟨_, _, _, _, _, _, rfl, _⟩ := hb
    refine W_asAgg ?_
    refine W_call (hF _ a p c s all L left i _ hbk ha hp hc hss hal hal2 a6) ?_
    rintro _ ⟨y, j', rfl, b1, b2, b3, b4⟩
    have b5 := kn_eq b2 b4
    have b1' := b1
    obtain ⟨_, _, _, _, _, _, rfl, _⟩ := b1
    repeat (with_reducible (first | (refine W_uI ?_) | (refine W_uS ?_) | (refine W_uL ?_) | (refine W_uA ?_) | (refine W_uB ?_) | (refine W_aI ?_) | (refine W_aL ?_) | (refine W_ca3 ?_) | (refine W_ce3 ?_) | (refine W_ca4 ?_) | (refine W_ce4 ?_) | (refine W_ca5 ?_) | (refine W_ce5 ?_) | (refine W_ca6 ?_) | (refine W_ce6 ?_) | (refine W_ca7 ?_) | (refine W_ce7 ?_) | (refine W_ca8 ?_) | (refine W_ce8 ?_) | (refine W_unCons ?_) | (refine W_unNil ?_) | (refine W_asInt ?_) | (refine W_asStr ?_) | (refine W_asSl ?_) | (refine W_asAgg ?_) | (refine W_kd ?_) | (refine W_z ?_)))
    rw [Int.toNat_natCast, set2]
    refine W_and (W_yes (by omega) (W_yes (by rw [List.length_set]; exact hlt) ?_))
    refine W_nth (by rw [List.length_set]; omega) (fun v _ _ => ?_)
    rw [wrap_id (n := (A.length : Int) + 1) (by omega)]
    have e := kid_loop hF (kind := kind) (z := z) (h0 := h0) (h5 := h5) (hs := hs) (nm := nm) (h1 := h1) (h2 := h2) (h3 := h3) (h4 := h4) (en := en) (ex := ex) (tr := tr) (left := left) ha hp hc hss hal hal2 hKo B (A ++ [_]) j j' (by omega) (by simp; omega) (mem_snoc a3 b1') (fun t ht => a4 t (List.mem_cons_of_mem _ ht)) (by rw [← a5]; simp only [List.append_assoc, List.singleton_append, List.map_append, List.map_cons]; rw [b5]) b3
    simp only [List.append_assoc, List.singleton_append, List.length_append, List.length_cons, List.length_nil, Nat.zero_add, Int.natCast_add, Int.natCast_one] at e
    exact e
theorem fill_ok {d : Nat} (hk : 1000 ≤ k) (hN : NextS G) (hPk : PickS G) (hEv : EventS G) (hE : ExprOK 2 G) (hB2 : BlockOK 2 G) (hB1 : BlockOK 1 G) (hF : ∀ d', d = d' + 1 → FillOK d' G) : FillOK d (fun _ args (K : List V → Option R) => g92 G k args K) := by
  intro x a p c s all L left i K hx ha hp hc hs hal hal2 hr
  cases d with
  | zero => exact hx.elim
  | succ d =>
  have hx2 := hx
  obtain ⟨kind, nm, en, ex, tr, kids, rfl, x1, x2, x3, x4, x5, x6, x7, x8, x9, x10, x11, x12, x13⟩ := hx
  show W _ K (f92 G k kind nm en ex tr kids 0 a p c s left all L i K)
  unfold f92
  have htr : tr = [] := List.eq_nil_of_length_eq_zero (by omega)
  subst htr
  refine W_dec (fun h => W_ret ⟨_, _, rfl, StateS.le (by omega) hx2, rfl, hr, rfl⟩) (fun h => ?_)
  have hal3 : StrsS 100 all := ⟨by omega, fun v hv => by obtain ⟨s, e, h, _⟩ := hal v hv; exact ⟨s, e, h⟩⟩
  unfold NextS at hN; unfold BlockOK at hB1
  have fin : ∀ (kids' en' ex' tr' : List V) (j : Int), kids'.map (kn d) = kids.map (kn d) → (∀ t ∈ kids', StateS 2 d t) → RowS L j → BlockS 2 en' → BlockS 2 ex' → tr'.length ≤ 2 → (∀ t ∈ tr', TransS t) →
      W (fun o => ∃ y j, o = [y, .int .i64 left, .int .i64 j] ∧ StateS 2 (d + 1) y ∧ kindV y = kindV (.agg [.int .i64 kind, .str nm, .sl 8 en, .sl 8 ex, .sl 5 [], .sl 7 kids, .int .i64 0]) ∧ RowS L j ∧ nmV (d + 1) y = nmV (d + 1) (.agg [.int .i64 kind, .str nm, .sl 8 en, .sl 8 ex, .sl 5 [], .sl 7 kids, .int .i64 0])) K
        (K [.agg [.int .i64 kind, .str nm, .sl 8 en', .sl 8 ex', .sl 5 tr', .sl 7 kids', .int .i64 0], .int .i64 left, .int .i64 j]) := by
    intro kids' en' ex' tr' j b1 b2 b3 b4 b5 b6 b7
    have hl : kids'.length = kids.length := by have := congrArg List.length b1; simpa using this
    refine W_ret ⟨_, _, rfl, ⟨kind, nm, en', ex', tr', kids', rfl, x1, x2, x3, x4, b4, b5, b6, b7, by omega, b2, fun h' => absurd h' h, ?_, fun h' e => x13 h' (List.eq_nil_of_length_eq_zero (by rw [← hl, e]; rfl))⟩, rfl, b3, ?_⟩
    rotate_left
    · have e2 := congrArg (List.map Prod.snd) b1
      simp only [List.map_map] at e2
      exact congrArg (fun l : List (List V) => V.str nm :: l.flatten) e2
    intro v r e
    cases kids with
    | nil => rw [e] at hl; simp at hl
    | cons u us =>
      rw [e] at b1; simp [kn] at b1
      rw [b1.1.1]; exact x12 u us rfl
  have go : ∀ (en' ex' : List V) (n j : Int) (Kx : List V → Option R), RowS L j → 0 ≤ n → n ≤ 2 → BlockS 2 en' → BlockS 2 ex' →
      W (fun o => ∃ y j, o = [y, .int .i64 left, .int .i64 j] ∧ StateS 2 (d + 1) y ∧ kindV y = kindV (.agg [.int .i64 kind, .str nm, .sl 8 en, .sl 8 ex, .sl 5 [], .sl 7 kids, .int .i64 0]) ∧ RowS L j ∧ nmV (d + 1) y = nmV (d + 1) (.agg [.int .i64 kind, .str nm, .sl 8 en, .sl 8 ex, .sl 5 [], .sl 7 kids, .int .i64 0])) K
        (l92_0 G k n a p c s left all L j kind nm en' ex' [] kids 0 0 ⟨#[]⟩ [] [] [] [] 0 (fun yl390 yl391 yl392 yl393 yi394 yl395 yl396 yi397 yi398 ys399 yl400 yl401 yl402 yl403 yi404 yi405 ys406 yl407 yl408 yl409 yl410 yi411 => (l92_2 G k (0 : Int) yl390 yl391 yl392 yl393 yi394 yl395 yl396 yi397 yi398 ys399 yl400 yl401 yl402 yl403 yi404 yi405 ys406 yl407 yl408 yl409 yl410 yi411 (fun yl477 yl478 yl479 yl480 yi481 yl482 yl483 yi484 yi485 ys486 yl487 yl488 yl489 yl490 yi491 yi492 ys493 yl494 yl495 yl496 yl497 yi498 => (K [(.agg [(.int .i64 yi485), (.str ys486), (.sl 8 yl487), (.sl 8 yl488), (.sl 5 yl489), (.sl 7 yl490), (.int .i64 yi491)]), (.int .i64 yi481), (.int .i64 yi484)]))))) := by
    intro en' ex' n j _ b1 b2 b3 b4 b5
    unfold l92_0
    refine tr_loop hN hPk hEv hE hB2 ha hp hc hs hal3 ?_ k n j [] (by omega) b2 (by simp; omega) (by simp) b1
    intro tr' j' c1 c2 c3
    unfold l92_2
    have e := kid_loop (Q := fun o => ∃ y j, o = [y, .int .i64 left, .int .i64 j] ∧ StateS 2 (d + 1) y ∧ kindV y = kindV (.agg [.int .i64 kind, .str nm, .sl 8 en, .sl 8 ex, .sl 5 [], .sl 7 kids, .int .i64 0]) ∧ RowS L j ∧ nmV (d + 1) y = nmV (d + 1) (.agg [.int .i64 kind, .str nm, .sl 8 en, .sl 8 ex, .sl 5 [], .sl 7 kids, .int .i64 0])) (K := K) (k := k) (hF d rfl) (kind := kind) (z := 0) (h0 := 0) (h5 := 0) (hs := ⟨#[]⟩) (nm := nm) (h1 := []) (h2 := []) (h3 := []) (h4 := []) (en := en') (ex := ex') (tr := tr') (left := left) (ks := kids.map (kn d))
      (Ko := (fun yl477 yl478 yl479 yl480 yi481 yl482 yl483 yi484 yi485 ys486 yl487 yl488 yl489 yl490 yi491 yi492 ys493 yl494 yl495 yl496 yl497 yi498 => (K [(.agg [(.int .i64 yi485), (.str ys486), (.sl 8 yl487), (.sl 8 yl488), (.sl 5 yl489), (.sl 7 yl490), (.int .i64 yi491)]), (.int .i64 yi481), (.int .i64 yi484)])))
      ha hp hc hs hal hal2 (fun kids' j'' d1 d2 d3 => fin kids' en' ex' tr' j'' d1 d2 d3 b4 b5 c1 c2) kids [] k j' (by omega) (by simpa using x9) (by simp) x10 rfl c3
    exact e
  refine W_call (hN _ _ _ _ (by omega) (by omega) hr) ?_
  rintro _ ⟨y1, i1, rfl, y11, y12, r1⟩
  refine W_uI (W_uI (W_unNil ?_))
  have last : ∀ (en' ex' : List V) (j : Int), RowS L j → BlockS 2 en' → BlockS 2 ex' → ∀ (F : List V → Option R), (∀ n j', F [.int .i64 n, .int .i64 j'] = (l92_0 G k n a p c s left all L j' kind nm en' ex' [] kids 0 0 ⟨#[]⟩ [] [] [] [] 0 (fun yl390 yl391 yl392 yl393 yi394 yl395 yl396 yi397 yi398 ys399 yl400 yl401 yl402 yl403 yi404 yi405 ys406 yl407 yl408 yl409 yl410 yi411 => (l92_2 G k (0 : Int) yl390 yl391 yl392 yl393 yi394 yl395 yl396 yi397 yi398 ys399 yl400 yl401 yl402 yl403 yi404 yi405 ys406 yl407 yl408 yl409 yl410 yi411 (fun yl477 yl478 yl479 yl480 yi481 yl482 yl483 yi484 yi485 ys486 yl487 yl488 yl489 yl490 yi491 yi492 ys493 yl494 yl495 yl496 yl497 yi498 => (K [(.agg [(.int .i64 yi485), (.str ys486), (.sl 8 yl487), (.sl 8 yl488), (.sl 5 yl489), (.sl 7 yl490), (.int .i64 yi491)]), (.int .i64 yi481), (.int .i64 yi484)])))))) →
      W (fun o => ∃ y j, o = [y, .int .i64 left, .int .i64 j] ∧ StateS 2 (d + 1) y ∧ kindV y = kindV (.agg [.int .i64 kind, .str nm, .sl 8 en, .sl 8 ex, .sl 5 [], .sl 7 kids, .int .i64 0]) ∧ RowS L j ∧ nmV (d + 1) y = nmV (d + 1) (.agg [.int .i64 kind, .str nm, .sl 8 en, .sl 8 ex, .sl 5 [], .sl 7 kids, .int .i64 0])) K (G 68 [.int .i64 3, .sl 1 L, .int .i64 j] F) := by
    intro en' ex' j b1 b2 b3 F hFe
    refine W_call (hN _ _ _ _ (by omega) (by omega) b1) ?_
    rintro _ ⟨n, i1, rfl, n1, n2, r1⟩
    rw [hFe]
    exact go en' ex' n i1 K r1 n1 (by omega) b2 b3
  refine W_beqI (fun _ => ?_) (fun _ => ?_)
  · refine W_call (hB1 _ _ _ _ _ _ _ _ (by rfl) ha hp hc hs r1) ?_
    rintro _ ⟨en', i2, rfl, he, r2⟩
    refine W_uL (W_uI (W_unNil ?_))
    refine W_call (hN _ _ _ _ (by omega) (by omega) r2) ?_
    rintro _ ⟨y2, i3, rfl, y21, y22, r3⟩
    refine W_uI (W_uI (W_unNil ?_))
    refine W_beqI (fun _ => ?_) (fun _ => ?_)
    · refine W_call (hB1 _ _ _ _ _ _ _ _ (by rfl) ha hp hc hs r3) ?_
      rintro _ ⟨ex', i4, rfl, hex, r4⟩
      refine W_uL (W_uI (W_unNil ?_))
      exact last en' ex' i4 r4 he hex _ (fun n j' => rfl)
    · exact last en' ex i3 r3 he x6 _ (fun n j' => rfl)
  · refine W_call (hN _ _ _ _ (by omega) (by omega) r1) ?_
    rintro _ ⟨y2, i3, rfl, y21, y22, r3⟩
    refine W_uI (W_uI (W_unNil ?_))
    refine W_beqI (fun _ => ?_) (fun _ => ?_)
    · refine W_call (hB1 _ _ _ _ _ _ _ _ (by rfl) ha hp hc hs r3) ?_
      rintro _ ⟨ex', i4, rfl, hex, r4⟩
      refine W_uL (W_uI (W_unNil ?_))
      exact last en ex' i4 r4 x5 hex _ (fun n j' => rfl)
    · exact last en ex i3 r3 x5 x6 _ (fun n j' => rfl)
end
end Go.Proofs.Ytblabbcmokldiaa.Vm
