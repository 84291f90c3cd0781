/- Functions of the program, told by the machine of values, and what they answer: part 1. -/
import Derived.Test.YtdfjodnkplbffaaV3
import Derived.Test.YtdfjodnkplbffaaProg
import Derived.KernelRfl
import Derived.Test.YtdfjodnkplbffaaV4
open Go Go.VM
set_option linter.unusedVariables false
set_option maxRecDepth 100000
namespace Go.Proofs.Ytdfjodnkplbffaa.Vm
def T2 : TyD := { under := (.int .i64), size := 1, bytes := 8, zv := [((.int .i64 (0 : Int)), .pr)], leafs := [(.int .i64)], deep := false }
def T3 : TyD := { under := (.int .i64), size := 1, bytes := 8, zv := [((.int .i64 (0 : Int)), .pr)], leafs := [(.int .i64)], deep := false }
def T4 : TyD := { under := .bool, size := 1, bytes := 1, zv := [((.bool false), .pr)], leafs := [.bool], deep := false }
def T5 : TyD := { under := (.int .u8), size := 1, bytes := 1, zv := [((.int .u8 (0 : Int)), .pr)], leafs := [(.int .u8)], deep := false }
def T6 : TyD := { under := (.int .u8), size := 1, bytes := 1, zv := [((.int .u8 (0 : Int)), .pr)], leafs := [(.int .u8)], deep := false }
def T9 : TyD := { under := .string, size := 1, bytes := 16, zv := [((.str ⟨#[]⟩), .pr)], leafs := [.string], deep := false }
def T22 : TyD := { under := (.slice 3), size := 1, bytes := 24, zv := [((.sl 1 []), (.own true))], leafs := [(.slice 3)], deep := false }
def T24 : TyD := { under := (.slice 9), size := 1, bytes := 24, zv := [((.sl 1 []), (.own true))], leafs := [(.slice 9)], deep := false }
def T26 : TyD := { under := (.struct [(0, 24), (1, 24), (2, 24), (3, 24)]), size := 4, bytes := 96, zv := [((.sl 1 []), (.own true)), ((.sl 1 []), (.own true)), ((.sl 1 []), (.own true)), ((.sl 1 []), (.own true))], leafs := [(.slice 9), (.slice 9), (.slice 9), (.slice 9)], deep := false }
def T27 : TyD := { under := (.slice 123), size := 1, bytes := 24, zv := [((.sl 7 []), (.own true))], leafs := [(.slice 123)], deep := false }
def T29 : TyD := { under := (.struct [(0, 24), (1, 24), (2, 24), (3, 27)]), size := 4, bytes := 96, zv := [((.sl 1 []), (.own true)), ((.sl 1 []), (.own true)), ((.sl 1 []), (.own true)), ((.sl 7 []), (.own true))], leafs := [(.slice 9), (.slice 9), (.slice 9), (.slice 123)], deep := false }
def T30 : TyD := { under := (.struct [(0, 24), (1, 24), (2, 24), (3, 27)]), size := 4, bytes := 96, zv := [((.sl 1 []), (.own true)), ((.sl 1 []), (.own true)), ((.sl 1 []), (.own true)), ((.sl 7 []), (.own true))], leafs := [(.slice 9), (.slice 9), (.slice 9), (.slice 123)], deep := false }
def T33 : TyD := { under := (.slice 50), size := 1, bytes := 24, zv := [((.sl 8 []), (.own true))], leafs := [(.slice 50)], deep := true }
def T35 : TyD := { under := .pointer, size := 1, bytes := 8, zv := [(.nilp, .pr)], leafs := [.pointer], deep := false }
def T37 : TyD := { under := (.struct [(0, 22), (1, 3)]), size := 2, bytes := 32, zv := [((.sl 1 []), (.own true)), ((.int .i64 (0 : Int)), .pr)], leafs := [(.slice 3), (.int .i64)], deep := false }
def T39 : TyD := { under := (.slice 47), size := 1, bytes := 24, zv := [((.sl 4 []), (.own true))], leafs := [(.slice 47)], deep := false }
def T47 : TyD := { under := (.struct [(0, 3), (1, 3), (2, 2), (3, 9)]), size := 4, bytes := 40, zv := [((.int .i64 (0 : Int)), .pr), ((.int .i64 (0 : Int)), .pr), ((.int .i64 (0 : Int)), .pr), ((.str ⟨#[]⟩), .pr)], leafs := [(.int .i64), (.int .i64), (.int .i64), .string], deep := false, cmp := true }
def T48 : TyD := { under := (.slice 53), size := 1, bytes := 24, zv := [((.sl 5 []), (.own true))], leafs := [(.slice 53)], deep := true }
def T50 : TyD := { under := (.struct [(0, 3), (1, 9), (2, 9), (3, 48), (4, 3), (5, 33), (6, 33), (7, 3)]), size := 8, bytes := 128, zv := [((.int .i64 (0 : Int)), .pr), ((.str ⟨#[]⟩), .pr), ((.str ⟨#[]⟩), .pr), ((.sl 5 []), (.own true)), ((.int .i64 (0 : Int)), .pr), ((.sl 8 []), (.own true)), ((.sl 8 []), (.own true)), ((.int .i64 (0 : Int)), .pr)], leafs := [(.int .i64), .string, .string, (.slice 53), (.int .i64), (.slice 50), (.slice 50), (.int .i64)], deep := true }
def T53 : TyD := { under := (.struct [(0, 3), (1, 2), (2, 9), (3, 48), (4, 3)]), size := 5, bytes := 64, zv := [((.int .i64 (0 : Int)), .pr), ((.int .i64 (0 : Int)), .pr), ((.str ⟨#[]⟩), .pr), ((.sl 5 []), (.own true)), ((.int .i64 (0 : Int)), .pr)], leafs := [(.int .i64), (.int .i64), .string, (.slice 53), (.int .i64)], deep := true }
def T58 : TyD := { under := (.slice 2), size := 1, bytes := 24, zv := [((.sl 1 []), (.own true))], leafs := [(.slice 2)], deep := false }
def T59 : TyD := { under := (.slice 22), size := 1, bytes := 24, zv := [((.sl 1 []), (.own true))], leafs := [(.slice 22)], deep := false }
def T61 : TyD := { under := (.struct [(0, 22), (1, 58), (2, 59)]), size := 3, bytes := 72, zv := [((.sl 1 []), (.own true)), ((.sl 1 []), (.own true)), ((.sl 1 []), (.own true))], leafs := [(.slice 3), (.slice 2), (.slice 22)], deep := false }
def T65 : TyD := { under := (.slice 77), size := 1, bytes := 24, zv := [((.sl 2 []), (.own true))], leafs := [(.slice 77)], deep := false }
def T66 : TyD := { under := (.slice 79), size := 1, bytes := 24, zv := [((.sl 4 []), (.own true))], leafs := [(.slice 79)], deep := false }
def T67 : TyD := { under := (.int .i64), size := 1, bytes := 8, zv := [((.int .i64 (0 : Int)), .pr)], leafs := [(.int .i64)], deep := false }
def T69 : TyD := { under := (.struct [(0, 2), (1, 58), (2, 65), (3, 66), (4, 3), (5, 67)]), size := 6, bytes := 96, zv := [((.int .i64 (0 : Int)), .pr), ((.sl 1 []), (.own true)), ((.sl 2 []), (.own true)), ((.sl 4 []), (.own true)), ((.int .i64 (0 : Int)), .pr), ((.int .i64 (0 : Int)), .pr)], leafs := [(.int .i64), (.slice 2), (.slice 77), (.slice 79), (.int .i64), (.int .i64)], deep := false }
def T71 : TyD := { under := (.struct [(0, 2), (1, 58), (2, 65), (3, 66), (4, 3), (5, 67)]), size := 6, bytes := 96, zv := [((.int .i64 (0 : Int)), .pr), ((.sl 1 []), (.own true)), ((.sl 2 []), (.own true)), ((.sl 4 []), (.own true)), ((.int .i64 (0 : Int)), .pr), ((.int .i64 (0 : Int)), .pr)], leafs := [(.int .i64), (.slice 2), (.slice 77), (.slice 79), (.int .i64), (.int .i64)], deep := false }
def T74 : TyD := { under := (.int .u16), size := 1, bytes := 2, zv := [((.int .u16 (0 : Int)), .pr)], leafs := [(.int .u16)], deep := false }
def T77 : TyD := { under := (.struct [(0, 9), (1, 2)]), size := 2, bytes := 24, zv := [((.str ⟨#[]⟩), .pr), ((.int .i64 (0 : Int)), .pr)], leafs := [.string, (.int .i64)], deep := false, cmp := true }
def T79 : TyD := { under := (.struct [(0, 3), (1, 3), (2, 77)]), size := 4, bytes := 40, zv := [((.int .i64 (0 : Int)), .pr), ((.int .i64 (0 : Int)), .pr), ((.str ⟨#[]⟩), .pr), ((.int .i64 (0 : Int)), .pr)], leafs := [(.int .i64), (.int .i64), .string, (.int .i64)], deep := false, cmp := true }
def T81 : TyD := { under := (.array 2 2), size := 2, bytes := 16, zv := [((.int .i64 (0 : Int)), .pr), ((.int .i64 (0 : Int)), .pr)], leafs := [(.int .i64), (.int .i64)], deep := false }
def T87 : TyD := { under := (.slice 164), size := 1, bytes := 24, zv := [((.sl 5 []), (.own true))], leafs := [(.slice 164)], deep := true }
def T88 : TyD := { under := (.slice 90), size := 1, bytes := 24, zv := [((.sl 7 []), (.own true))], leafs := [(.slice 90)], deep := true }
def T90 : TyD := { under := (.struct [(0, 3), (1, 9), (2, 33), (3, 33), (4, 87), (5, 88), (6, 3)]), size := 7, bytes := 128, zv := [((.int .i64 (0 : Int)), .pr), ((.str ⟨#[]⟩), .pr), ((.sl 8 []), (.own true)), ((.sl 8 []), (.own true)), ((.sl 5 []), (.own true)), ((.sl 7 []), (.own true)), ((.int .i64 (0 : Int)), .pr)], leafs := [(.int .i64), .string, (.slice 50), (.slice 50), (.slice 164), (.slice 90), (.int .i64)], deep := true }
def T91 : TyD := { under := (.slice 166), size := 1, bytes := 24, zv := [((.sl 3 []), (.own true))], leafs := [(.slice 166)], deep := false }
def T93 : TyD := { under := (.struct [(0, 9), (1, 3), (2, 3), (3, 91), (4, 91), (5, 91), (6, 88), (7, 3)]), size := 8, bytes := 136, zv := [((.str ⟨#[]⟩), .pr), ((.int .i64 (0 : Int)), .pr), ((.int .i64 (0 : Int)), .pr), ((.sl 3 []), (.own true)), ((.sl 3 []), (.own true)), ((.sl 3 []), (.own true)), ((.sl 7 []), (.own true)), ((.int .i64 (0 : Int)), .pr)], leafs := [.string, (.int .i64), (.int .i64), (.slice 166), (.slice 166), (.slice 166), (.slice 90), (.int .i64)], deep := true }
def T97 : TyD := { under := .pointer, size := 1, bytes := 8, zv := [(.nilp, .pr)], leafs := [.pointer], deep := false }
def T99 : TyD := { under := (.struct [(0, 29), (4, 39)]), size := 5, bytes := 120, zv := [((.sl 1 []), (.own true)), ((.sl 1 []), (.own true)), ((.sl 1 []), (.own true)), ((.sl 7 []), (.own true)), ((.sl 4 []), (.own true))], leafs := [(.slice 9), (.slice 9), (.slice 9), (.slice 123), (.slice 47)], deep := false }
def T102 : TyD := { under := (.array 6 3), size := 6, bytes := 48, zv := [((.int .i64 (0 : Int)), .pr), ((.int .i64 (0 : Int)), .pr), ((.int .i64 (0 : Int)), .pr), ((.int .i64 (0 : Int)), .pr), ((.int .i64 (0 : Int)), .pr), ((.int .i64 (0 : Int)), .pr)], leafs := [(.int .i64), (.int .i64), (.int .i64), (.int .i64), (.int .i64), (.int .i64)], deep := false }
def T106 : TyD := { under := .pointer, size := 1, bytes := 8, zv := [(.nilp, .pr)], leafs := [.pointer], deep := false }
def T107 : TyD := { under := .pointer, size := 1, bytes := 8, zv := [(.nilp, .pr)], leafs := [.pointer], deep := false }
def T108 : TyD := { under := (.int .u64), size := 1, bytes := 8, zv := [((.int .u64 (0 : Int)), .pr)], leafs := [(.int .u64)], deep := false }
def T109 : TyD := { under := (.array 2 108), size := 2, bytes := 16, zv := [((.int .u64 (0 : Int)), .pr), ((.int .u64 (0 : Int)), .pr)], leafs := [(.int .u64), (.int .u64)], deep := false }
def T111 : TyD := { under := (.struct [(0, 109)]), size := 2, bytes := 16, zv := [((.int .u64 (0 : Int)), .pr), ((.int .u64 (0 : Int)), .pr)], leafs := [(.int .u64), (.int .u64)], deep := false, cmp := true }
def T114 : TyD := { under := (.struct [(0, 39), (1, 107), (2, 111), (4, 2), (5, 58), (6, 58), (7, 3)]), size := 8, bytes := 112, zv := [((.sl 4 []), (.own true)), (.nilp, .pr), ((.int .u64 (0 : Int)), .pr), ((.int .u64 (0 : Int)), .pr), ((.int .i64 (0 : Int)), .pr), ((.sl 1 []), (.own true)), ((.sl 1 []), (.own true)), ((.int .i64 (0 : Int)), .pr)], leafs := [(.slice 47), .pointer, (.int .u64), (.int .u64), (.int .i64), (.slice 2), (.slice 2), (.int .i64)], deep := false }
def T117 : TyD := { under := .pointer, size := 1, bytes := 8, zv := [(.nilp, .pr)], leafs := [.pointer], deep := false }
def T119 : TyD := { under := (.struct [(0, 71), (6, 22), (7, 2), (8, 58), (9, 58), (10, 3)]), size := 11, bytes := 184, zv := [((.int .i64 (0 : Int)), .pr), ((.sl 1 []), (.own true)), ((.sl 2 []), (.own true)), ((.sl 4 []), (.own true)), ((.int .i64 (0 : Int)), .pr), ((.int .i64 (0 : Int)), .pr), ((.sl 1 []), (.own true)), ((.int .i64 (0 : Int)), .pr), ((.sl 1 []), (.own true)), ((.sl 1 []), (.own true)), ((.int .i64 (0 : Int)), .pr)], leafs := [(.int .i64), (.slice 2), (.slice 77), (.slice 79), (.int .i64), (.int .i64), (.slice 3), (.int .i64), (.slice 2), (.slice 2), (.int .i64)], deep := false }
def T123 : TyD := { under := (.struct [(0, 3), (1, 3), (2, 3), (3, 3), (4, 3), (5, 3), (6, 9)]), size := 7, bytes := 64, zv := [((.int .i64 (0 : Int)), .pr), ((.int .i64 (0 : Int)), .pr), ((.int .i64 (0 : Int)), .pr), ((.int .i64 (0 : Int)), .pr), ((.int .i64 (0 : Int)), .pr), ((.int .i64 (0 : Int)), .pr), ((.str ⟨#[]⟩), .pr)], leafs := [(.int .i64), (.int .i64), (.int .i64), (.int .i64), (.int .i64), (.int .i64), .string], deep := false }
def T124 : TyD := { under := (.array 8 9), size := 8, bytes := 128, zv := [((.str ⟨#[]⟩), .pr), ((.str ⟨#[]⟩), .pr), ((.str ⟨#[]⟩), .pr), ((.str ⟨#[]⟩), .pr), ((.str ⟨#[]⟩), .pr), ((.str ⟨#[]⟩), .pr), ((.str ⟨#[]⟩), .pr), ((.str ⟨#[]⟩), .pr)], leafs := [.string, .string, .string, .string, .string, .string, .string, .string], deep := false }
def T164 : TyD := { under := (.struct [(0, 9), (1, 48), (2, 9), (3, 33), (4, 3)]), size := 5, bytes := 88, zv := [((.str ⟨#[]⟩), .pr), ((.sl 5 []), (.own true)), ((.str ⟨#[]⟩), .pr), ((.sl 8 []), (.own true)), ((.int .i64 (0 : Int)), .pr)], leafs := [.string, (.slice 53), .string, (.slice 50), (.int .i64)], deep := true }
def T166 : TyD := { under := (.struct [(0, 9), (1, 2), (2, 3)]), size := 3, bytes := 32, zv := [((.str ⟨#[]⟩), .pr), ((.int .i64 (0 : Int)), .pr), ((.int .i64 (0 : Int)), .pr)], leafs := [.string, (.int .i64), (.int .i64)], deep := false }
def S3 : Sig := { params := [.val .ro (.sl 1)], boxes := [], outs := [(.pr, .bool)] }
def S4 : Sig := { params := [.val .ro (.sl 1), .val .pr (.int .i64)], boxes := [], outs := [(.pr, .bool)] }
def S5 : Sig := { params := [.val .ro (.sl 1)], boxes := [], outs := [(.pr, .bool)] }
def S6 : Sig := { params := [.val .ro (.sl 1), .val .pr (.int .u8)], boxes := [], outs := [(.pr, .bool)] }
def S7 : Sig := { params := [.val .ro (.sl 1)], boxes := [], outs := [(.pr, .bool)] }
def S8 : Sig := { params := [.val .ro (.sl 1), .val .pr .bool, .val .pr (.int .i64), .val .pr (.int .i64), .val .pr .bool, .val .pr (.int .i64), .val .pr (.int .i64)], boxes := [], outs := [(.pr, .bool)] }
def S9 : Sig := { params := [.val .ro (.sl 1), .val .pr (.int .i64), .val .pr (.int .i64), .val .pr (.int .i64), .val .pr (.int .u16)], boxes := [], outs := [(.pr, .bool)] }
def S10 : Sig := { params := [.val .ro (.sl 1), .val .pr .bool, .val .pr (.int .i64), .val .pr (.int .i64), .val .pr (.int .i64)], boxes := [], outs := [(.pr, .bool)] }
def S11 : Sig := { params := [.val .pr (.int .i64), .val .pr (.int .i64), .val .pr .bool], boxes := [], outs := [(.pr, .bool)] }
def S12 : Sig := { params := [.val .pr (.int .i64), .val .pr (.int .i64), .val .pr (.int .u8)], boxes := [], outs := [(.pr, .bool)] }
def S13 : Sig := { params := [.val .ro (.sl 1), .val .pr (.int .i64), .val .pr (.int .i64)], boxes := [], outs := [(.pr, .bool)] }
def S14 : Sig := { params := [], boxes := [], outs := [(.pr, .bool)] }
def S15 : Sig := { params := [], boxes := [], outs := [(.ro, (.agg [(.sl 1), (.sl 1), (.sl 1), (.sl 1)])), (.ro, (.agg [(.sl 1), (.sl 1), (.sl 1), (.sl 7)])), (.ro, (.agg [(.sl 1), (.sl 1), (.sl 1), (.sl 7)]))] }
def S16 : Sig := { params := [.ptr 0 0, .val .ro (.agg [(.sl 1), (.sl 1), (.sl 1), (.sl 1)]), .val .pr (.int .i64)], boxes := [[.fix (.sl 1), .val .pr (.int .i64)]], outs := [((.own true), (.sl 8))] }
def S17 : Sig := { params := [.val .ro (.sl 4), .val .ro (.sl 4)], boxes := [], outs := [(.pr, .bool)] }
def S18 : Sig := { params := [.val .ro (.sl 8), .val .ro (.agg [(.sl 1), (.sl 1), (.sl 1), (.sl 7)])], boxes := [], outs := [((.own true), (.sl 4))] }
def S19 : Sig := { params := [.val .ro (.sl 8), .val .ro (.agg [(.sl 1), (.sl 1), (.sl 1), (.sl 7)])], boxes := [], outs := [((.own true), (.sl 4))] }
def S20 : Sig := { params := [.val .ro (.sl 4), .val .pr (.int .i64)], boxes := [], outs := [(.pr, (.int .i64))] }
def S21 : Sig := { params := [.val .ro (.sl 4), .val .pr (.int .i64)], boxes := [], outs := [(.pr, (.int .i64))] }
def S22 : Sig := { params := [.val .ro (.sl 4)], boxes := [], outs := [(.pr, (.int .i64))] }
def S23 : Sig := { params := [.ptr 0 0, .val .ro (.agg [(.sl 1), (.sl 1), (.sl 1), (.sl 1)]), .val .pr (.int .i64)], boxes := [[.fix (.sl 1), .val .pr (.int .i64)]], outs := [((.own true), (.agg [(.int .i64), (.int .i64), .str, (.sl 5), (.int .i64)]))] }
def S24 : Sig := { params := [.val .ro (.agg [(.int .i64), (.int .i64), .str, (.sl 5), (.int .i64)]), .val .ro (.agg [(.sl 1), (.sl 1), (.sl 1), (.sl 7)])], boxes := [], outs := [((.own true), (.sl 4))] }
def S25 : Sig := { params := [.val .ro (.agg [(.int .i64), (.int .i64), .str, (.sl 5), (.int .i64)]), .val .ro (.agg [(.sl 1), (.sl 1), (.sl 1), (.sl 7)])], boxes := [], outs := [((.own true), (.sl 4))] }
def S26 : Sig := { params := [], boxes := [], outs := [(.pr, .bool)] }
def S27 : Sig := { params := [.val .ro (.sl 1), .val .pr .bool], boxes := [], outs := [(.ro, (.sl 4))] }
def S28 : Sig := { params := [.val .pr (.int .i64), .val .pr (.int .i64), .val .pr .bool], boxes := [], outs := [(.ro, (.agg [(.sl 1), (.sl 1), (.sl 1)]))] }
def S29 : Sig := { params := [.val .pr (.int .i64), .val .pr (.int .i64)], boxes := [], outs := [(.pr, (.int .i64))] }
def S30 : Sig := { params := [.val .ro (.agg [(.int .i64), (.sl 1), (.sl 2), (.sl 4), (.int .i64), (.int .i64)]), .val .ro (.agg [(.int .i64), (.sl 1), (.sl 2), (.sl 4), (.int .i64), (.int .i64)])], boxes := [], outs := [(.pr, .bool)] }
def S31 : Sig := { params := [.val .ro (.sl 4), .val .ro (.agg [(.sl 1), (.sl 1), (.sl 1)]), .val .pr (.int .i64), .val .pr (.int .i64)], boxes := [], outs := [(.ro, (.agg [(.int .i64), (.sl 1), (.sl 2), (.sl 4), (.int .i64), (.int .i64)]))] }
def S32 : Sig := { params := [.val .ro (.sl 4), .val .ro (.agg [(.sl 1), (.sl 1), (.sl 1)]), .val .pr (.int .i64), .val .pr (.int .i64)], boxes := [], outs := [(.ro, (.agg [(.int .i64), (.sl 1), (.sl 2), (.sl 4), (.int .i64), (.int .i64)]))] }
def S33 : Sig := { params := [.val .ro (.sl 1), .val .ro (.sl 1)], boxes := [], outs := [(.pr, .bool)] }
def S34 : Sig := { params := [.val .ro (.sl 4)], boxes := [], outs := [(.pr, (.int .i64))] }
def S35 : Sig := { params := [.val .ro (.agg [.str, (.int .i64), (.int .i64), (.sl 3), (.sl 3), (.sl 3), (.sl 7), (.int .i64)])], boxes := [], outs := [((.own true), (.sl 7))] }
def S36 : Sig := { params := [.ptr 0 0, .val .pr (.int .i64)], boxes := [[.fix (.sl 1), .val .pr (.int .i64)]], outs := [(.pr, (.int .i64))] }
def S37 : Sig := { params := [.ptr 0 0, .val .ro (.sl 1), .val .pr .str], boxes := [[.fix (.sl 1), .val .pr (.int .i64)]], outs := [(.pr, .str)] }
def S38 : Sig := { params := [.val .pr (.int .i64)], boxes := [], outs := [(.pr, .str)] }
def S39 : Sig := { params := [.ptr 0 0, .val .ro (.sl 8)], boxes := [[.fix (.sl 1), .fix (.sl 1), .fix (.sl 1), .fix (.sl 7), .val (.own true) (.sl 4)]], outs := [] }
def S40 : Sig := { params := [.val (.own true) (.sl 4), .val .ro (.sl 8), .val .ro (.agg [(.sl 1), (.sl 1), (.sl 1), (.sl 7)])], boxes := [], outs := [((.own true), (.sl 4))] }
def S41 : Sig := { params := [.ptr 0 0, .val .ro (.agg [(.int .i64), (.int .i64), .str, (.sl 5), (.int .i64)])], boxes := [[.fix (.sl 1), .fix (.sl 1), .fix (.sl 1), .fix (.sl 7), .val (.own true) (.sl 4)]], outs := [] }
def S42 : Sig := { params := [.val (.own true) (.sl 4), .val .ro (.agg [(.int .i64), (.int .i64), .str, (.sl 5), (.int .i64)]), .val .ro (.agg [(.sl 1), (.sl 1), (.sl 1), (.sl 7)])], boxes := [], outs := [((.own true), (.sl 4))] }
def S43 : Sig := { params := [.val .ro (.sl 1)], boxes := [], outs := [(.ro, (.sl 1))] }
def S44 : Sig := { params := [.val .ro (.sl 1)], boxes := [], outs := [(.ro, (.agg [(.int .u64), (.int .u64)]))] }
def S45 : Sig := { params := [.ptr 0 0], boxes := [[.val .pr (.int .i64), .fix (.sl 1), .fix (.sl 2), .fix (.sl 4), .val .pr (.int .i64), .val .pr (.int .i64)]], outs := [] }
def S46 : Sig := { params := [.ptr 0 0, .val .ro (.agg [(.int .i64), (.int .i64), (.int .i64), .str])], boxes := [[.fix (.sl 4), .ptr 1 0, .val .pr (.int .u64), .val .pr (.int .u64), .val .pr (.int .i64), .fix (.sl 1), .fix (.sl 1), .val .pr (.int .i64)], [.val .pr (.int .i64), .fix (.sl 1), .fix (.sl 2), .fix (.sl 4), .val .pr (.int .i64), .val .pr (.int .i64)]], outs := [] }
def S47 : Sig := { params := [.ptr 0 0, .val .ro (.agg [(.int .i64), (.int .i64), (.int .i64), .str])], boxes := [[.val .pr (.int .i64), .fix (.sl 1), .fix (.sl 2), .fix (.sl 4), .val .pr (.int .i64), .val .pr (.int .i64), .fix (.sl 1), .val .pr (.int .i64), .fix (.sl 1), .fix (.sl 1), .val .pr (.int .i64)]], outs := [(.pr, (.int .i64))] }
def S48 : Sig := { params := [.ptr 0 0, .val .ro (.agg [(.int .i64), (.int .i64), (.int .i64), .str])], boxes := [[.val .pr (.int .i64), .fix (.sl 1), .fix (.sl 2), .fix (.sl 4), .val .pr (.int .i64), .val .pr (.int .i64), .fix (.sl 1), .val .pr (.int .i64), .fix (.sl 1), .fix (.sl 1), .val .pr (.int .i64)]], outs := [(.pr, (.int .i64))] }
def S49 : Sig := { params := [.ptr 0 0, .val .ro (.agg [(.int .i64), (.int .i64), (.int .i64), .str])], boxes := [[.val .pr (.int .i64), .fix (.sl 1), .fix (.sl 2), .fix (.sl 4), .val .pr (.int .i64), .val .pr (.int .i64), .fix (.sl 1), .val .pr (.int .i64), .fix (.sl 1), .fix (.sl 1), .val .pr (.int .i64)]], outs := [] }
def S50 : Sig := { params := [.val (.own true) (.sl 7), .val .ro (.sl 7), .val .pr (.int .i64)], boxes := [], outs := [((.own true), (.sl 7))] }
def S51 : Sig := { params := [.ptr 0 0, .val .ro (.agg [(.int .i64), .str, .str, (.sl 5), (.int .i64), (.sl 8), (.sl 8), (.int .i64)])], boxes := [[.fix (.sl 1), .fix (.sl 1), .fix (.sl 1), .fix (.sl 7), .val (.own true) (.sl 4)]], outs := [] }
def S52 : Sig := { params := [.ptr 0 0, .val .ro (.agg [(.int .i64), .str, .str, (.sl 5), (.int .i64), (.sl 8), (.sl 8), (.int .i64)])], boxes := [[.fix (.sl 1), .fix (.sl 1), .fix (.sl 1), .fix (.sl 7), .val (.own true) (.sl 4)]], outs := [] }
def S53 : Sig := { params := [.ptr 0 0, .val .ro (.agg [(.int .i64), .str, .str, (.sl 5), (.int .i64), (.sl 8), (.sl 8), (.int .i64)])], boxes := [[.fix (.sl 1), .fix (.sl 1), .fix (.sl 1), .fix (.sl 7), .val (.own true) (.sl 4)]], outs := [] }
def S54 : Sig := { params := [.val (.own true) (.sl 4), .val .ro (.agg [(.int .i64), .str, .str, (.sl 5), (.int .i64), (.sl 8), (.sl 8), (.int .i64)]), .val .ro (.agg [(.sl 1), (.sl 1), (.sl 1), (.sl 7)])], boxes := [], outs := [((.own true), (.sl 4))] }
def S55 : Sig := { params := [.ptr 0 0, .val .pr (.int .i64)], boxes := [[.fix (.sl 1), .fix (.sl 1), .fix (.sl 1), .fix (.sl 7), .val (.own true) (.sl 4)]], outs := [] }
def S56 : Sig := { params := [.ptr 0 0, .val .ro (.agg [(.int .i64), (.int .i64), (.int .i64), .str])], boxes := [[.fix (.sl 1), .fix (.sl 1), .fix (.sl 1), .fix (.sl 7), .val (.own true) (.sl 4)]], outs := [(.pr, (.int .i64))] }
def S57 : Sig := { params := [.val .ro (.sl 1), .val .pr .str], boxes := [], outs := [(.pr, (.int .i64))] }
def S58 : Sig := { params := [.val .ro (.sl 7), .val .pr .str], boxes := [], outs := [(.pr, (.int .i64))] }
def S59 : Sig := { params := [.ptr 0 0, .val .ro (.agg [(.int .i64), (.int .i64), .str, (.sl 5), (.int .i64)])], boxes := [[.fix (.sl 1), .fix (.sl 1), .fix (.sl 1), .fix (.sl 7), .val (.own true) (.sl 4)]], outs := [] }
def S60 : Sig := { params := [.val .pr (.int .i64)], boxes := [], outs := [(.pr, (.int .i64))] }
def S61 : Sig := { params := [.val .ro (.sl 1), .val .pr .str], boxes := [], outs := [(.pr, (.int .i64))] }
def S62 : Sig := { params := [.val .ro (.sl 7), .val .pr .str], boxes := [], outs := [(.pr, (.int .i64))] }
def S63 : Sig := { params := [.val .pr (.int .i64)], boxes := [], outs := [(.pr, (.int .i64))] }
def S64 : Sig := { params := [.val (.own true) (.sl 4), .val .ro (.agg [(.int .i64), (.int .i64), .str, (.sl 5), (.int .i64)]), .val .ro (.agg [(.sl 1), (.sl 1), (.sl 1), (.sl 7)])], boxes := [], outs := [((.own true), (.sl 4))] }
def S65 : Sig := { params := [.val (.own true) (.sl 4), .val .ro (.agg [(.int .i64), (.int .i64), .str, (.sl 5), (.int .i64)]), .val .ro (.agg [(.sl 1), (.sl 1), (.sl 1), (.sl 7)])], boxes := [], outs := [((.own true), (.sl 4))] }
def S66 : Sig := { params := [.val .ro (.agg [(.int .u64), (.int .u64)]), .val .pr (.int .i64)], boxes := [], outs := [(.ro, (.agg [(.int .u64), (.int .u64)]))] }
def S67 : Sig := { params := [.ptr 0 0, .val .pr (.int .i64)], boxes := [[.fix (.sl 4), .ptr 1 0, .val .pr (.int .u64), .val .pr (.int .u64), .val .pr (.int .i64), .fix (.sl 1), .fix (.sl 1), .val .pr (.int .i64)], [.val .pr (.int .i64), .fix (.sl 1), .fix (.sl 2), .fix (.sl 4), .val .pr (.int .i64), .val .pr (.int .i64)]], outs := [] }
def S68 : Sig := { params := [.val .pr .bool], boxes := [], outs := [(.pr, (.int .i64))] }
def S69 : Sig := { params := [.val .ro (.agg [(.int .u64), (.int .u64)]), .val .pr (.int .i64)], boxes := [], outs := [(.pr, .bool)] }
def S70 : Sig := { params := [.val .pr (.int .i64), .val .pr (.int .i64)], boxes := [], outs := [(.pr, (.int .i64))] }
def S71 : Sig := { params := [.val .pr (.int .i64)], boxes := [], outs := [(.pr, (.int .i64)), (.pr, (.int .i64))] }
def S72 : Sig := { params := [.ptr 0 0], boxes := [[.fix (.sl 4), .ptr 1 0, .val .pr (.int .u64), .val .pr (.int .u64), .val .pr (.int .i64), .fix (.sl 1), .fix (.sl 1), .val .pr (.int .i64)], [.val .pr (.int .i64), .fix (.sl 1), .fix (.sl 2), .fix (.sl 4), .val .pr (.int .i64), .val .pr (.int .i64)]], outs := [(.pr, (.int .i64))] }
def S73 : Sig := { params := [.ptr 0 0, .val .ro (.agg [(.int .i64), (.int .i64), (.int .i64), .str])], boxes := [[.fix (.sl 4), .ptr 1 0, .val .pr (.int .u64), .val .pr (.int .u64), .val .pr (.int .i64), .fix (.sl 1), .fix (.sl 1), .val .pr (.int .i64)], [.val .pr (.int .i64), .fix (.sl 1), .fix (.sl 2), .fix (.sl 4), .val .pr (.int .i64), .val .pr (.int .i64)]], outs := [] }
def S74 : Sig := { params := [.ptr 0 0, .val .ro (.agg [(.int .i64), (.int .i64), (.int .i64), .str])], boxes := [[.fix (.sl 4), .ptr 1 0, .val .pr (.int .u64), .val .pr (.int .u64), .val .pr (.int .i64), .fix (.sl 1), .fix (.sl 1), .val .pr (.int .i64)], [.val .pr (.int .i64), .fix (.sl 1), .fix (.sl 2), .fix (.sl 4), .val .pr (.int .i64), .val .pr (.int .i64)]], outs := [] }
def S75 : Sig := { params := [.val .pr (.int .i64), .val .pr (.int .i64), .val .pr (.int .i64)], boxes := [], outs := [(.pr, (.int .i64))] }
def S76 : Sig := { params := [.ptr 0 0, .val .pr (.int .i64)], boxes := [[.val .pr (.int .i64), .fix (.sl 1), .fix (.sl 2), .fix (.sl 4), .val .pr (.int .i64), .val .pr (.int .i64), .fix (.sl 1), .val .pr (.int .i64), .fix (.sl 1), .fix (.sl 1), .val .pr (.int .i64)]], outs := [] }
def S77 : Sig := { params := [.val .pr .bool], boxes := [], outs := [(.pr, (.int .i64))] }
def S78 : Sig := { params := [.val .ro (.sl 1), .val .pr (.int .i64)], boxes := [], outs := [(.pr, .bool)] }
def S79 : Sig := { params := [.ptr 0 0], boxes := [[.val .pr (.int .i64), .fix (.sl 1), .fix (.sl 2), .fix (.sl 4), .val .pr (.int .i64), .val .pr (.int .i64), .fix (.sl 1), .val .pr (.int .i64), .fix (.sl 1), .fix (.sl 1), .val .pr (.int .i64)]], outs := [(.pr, (.int .i64))] }
def S80 : Sig := { params := [.val .pr (.int .i64)], boxes := [], outs := [(.pr, (.int .i64)), (.pr, (.int .i64))] }
def S81 : Sig := { params := [.val .pr (.int .i64), .val .pr (.int .i64), .val .pr (.int .i64)], boxes := [], outs := [(.pr, (.int .i64)), (.pr, (.int .i64))] }
def S82 : Sig := { params := [.val .ro (.agg [(.int .i64), .str, (.sl 8), (.sl 8), (.sl 5), (.sl 7), (.int .i64)])], boxes := [], outs := [(.pr, (.int .i64))] }
def S83 : Sig := { params := [.val .ro (.agg [(.int .i64), (.int .i64), (.int .i64), (.int .i64), (.int .i64), (.int .i64), .str])], boxes := [], outs := [(.pr, .bool)] }
def S84 : Sig := { params := [.ptr 0 0, .val .pr (.int .i64)], boxes := [[.fix (.sl 1), .fix (.sl 1), .fix (.sl 1), .fix (.sl 7), .val (.own true) (.sl 4)]], outs := [] }
def S85 : Sig := { params := [.ptr 0 0, .val .ro (.agg [(.int .i64), .str, .str, (.sl 5), (.int .i64), (.sl 8), (.sl 8), (.int .i64)])], boxes := [[.fix (.sl 1), .fix (.sl 1), .fix (.sl 1), .fix (.sl 7), .val (.own true) (.sl 4)]], outs := [] }
def S86 : Sig := { params := [.val (.own true) (.sl 4), .val .ro (.sl 5), .val .ro (.agg [(.sl 1), (.sl 1), (.sl 1), (.sl 7)])], boxes := [], outs := [((.own true), (.sl 4))] }
def S88 : Sig := { params := [.val .ro (.agg [(.int .i64), (.int .i64), (.int .i64), (.int .i64), (.int .i64), (.int .i64), .str]), .ptr 0 0], boxes := [[.val .pr .str]], outs := [(.pr, .bool)] }
def S89 : Sig := { params := [.val .pr (.int .i64)], boxes := [], outs := [(.pr, .bool)] }
def S90 : Sig := { params := [.val .pr (.int .i64), .val .pr (.int .i64)], boxes := [], outs := [(.pr, (.int .i64)), (.pr, (.int .i64))] }
def S91 : Sig := { params := [.ptr 0 0, .val .pr (.int .i64), .val .pr (.int .i64), .val .ro (.agg [.str, (.int .i64)])], boxes := [[.fix (.sl 4), .ptr 1 0, .val .pr (.int .u64), .val .pr (.int .u64), .val .pr (.int .i64), .fix (.sl 1), .fix (.sl 1), .val .pr (.int .i64)], [.val .pr (.int .i64), .fix (.sl 1), .fix (.sl 2), .fix (.sl 4), .val .pr (.int .i64), .val .pr (.int .i64)]], outs := [] }
def S92 : Sig := { params := [.val .pr (.int .i64), .val .pr (.int .i64)], boxes := [], outs := [(.pr, (.int .i64)), (.pr, (.int .i64))] }
def S93 : Sig := { params := [.val .pr (.int .i64), .val .pr (.int .i64)], boxes := [], outs := [(.pr, (.int .i64)), (.pr, (.int .i64))] }
def S94 : Sig := { params := [.val .pr (.int .i64), .val .pr (.int .i64)], boxes := [], outs := [(.pr, (.int .i64)), (.pr, (.int .i64))] }
def S95 : Sig := { params := [.val .pr (.int .i64), .val .pr (.int .i64)], boxes := [], outs := [(.pr, (.int .i64)), (.pr, (.int .i64))] }
def S96 : Sig := { params := [.val .pr (.int .i64), .val .pr (.int .i64)], boxes := [], outs := [(.pr, (.int .i64)), (.pr, (.int .i64))] }
def S97 : Sig := { params := [.val .pr (.int .i64), .val .pr (.int .i64)], boxes := [], outs := [(.pr, (.int .i64)), (.pr, (.int .i64))] }
def S98 : Sig := { params := [.val .pr (.int .i64), .val .pr (.int .i64)], boxes := [], outs := [(.pr, (.int .i64)), (.pr, (.int .i64))] }
def S99 : Sig := { params := [.val .pr (.int .i64), .val .pr (.int .i64)], boxes := [], outs := [(.pr, (.int .i64)), (.pr, (.int .i64))] }
def S100 : Sig := { params := [.val .pr (.int .i64), .val .pr (.int .i64)], boxes := [], outs := [(.pr, (.int .i64)), (.pr, (.int .i64))] }
def S65623 : Sig := { params := [.val .ro (.sl 7), .clo 88 [(0, 0)]], boxes := [[.val .pr .str]], outs := [(.pr, (.int .i64))] }
abbrev ORC (R : Type) := FuncId → List V → (List V → Option R) → Option R
def TAB : Tab := { tys := [(2, T2), (3, T3), (4, T4), (5, T5), (6, T6), (9, T9), (22, T22), (24, T24), (26, T26), (27, T27), (29, T29), (30, T30), (33, T33), (35, T35), (37, T37), (39, T39), (47, T47), (48, T48), (50, T50), (53, T53), (58, T58), (59, T59), (61, T61), (65, T65), (66, T66), (67, T67), (69, T69), (71, T71), (74, T74), (77, T77), (79, T79), (81, T81), (87, T87), (88, T88), (90, T90), (91, T91), (93, T93), (97, T97), (99, T99), (102, T102), (106, T106), (107, T107), (108, T108), (109, T109), (111, T111), (114, T114), (117, T117), (119, T119), (123, T123), (124, T124), (164, T164), (166, T166)], sigs := [(3, S3), (4, S4), (5, S5), (6, S6), (7, S7), (8, S8), (9, S9), (10, S10), (11, S11), (12, S12), (13, S13), (14, S14), (15, S15), (16, S16), (17, S17), (18, S18), (19, S19), (20, S20), (21, S21), (22, S22), (23, S23), (24, S24), (25, S25), (26, S26), (27, S27), (28, S28), (29, S29), (30, S30), (31, S31), (32, S32), (33, S33), (34, S34), (35, S35), (36, S36), (37, S37), (38, S38), (39, S39), (40, S40), (41, S41), (42, S42), (43, S43), (44, S44), (45, S45), (46, S46), (47, S47), (48, S48), (49, S49), (50, S50), (51, S51), (52, S52), (53, S53), (54, S54), (55, S55), (56, S56), (57, S57), (58, S58), (59, S59), (60, S60), (61, S61), (62, S62), (63, S63), (64, S64), (65, S65), (66, S66), (67, S67), (68, S68), (69, S69), (70, S70), (71, S71), (72, S72), (73, S73), (74, S74), (75, S75), (76, S76), (77, S77), (78, S78), (79, S79), (80, S80), (81, S81), (82, S82), (83, S83), (84, S84), (85, S85), (86, S86), (88, S88), (89, S89), (90, S90), (91, S91), (92, S92), (93, S93), (94, S94), (95, S95), (96, S96), (97, S97), (98, S98), (99, S99), (100, S100), (65623, S65623)], takes := [(16, 0, 1), (16, 21, 1), (18, 0, 1), (18, 3, 4), (19, 0, 1), (19, 1, 3), (22, 9, 4), (22, 9, 9), (24, 0, 2), (24, 3, 4), (25, 0, 2), (25, 1, 3), (35, 0, 1), (35, 3, 1), (40, 0, 1), (40, 5, 1), (42, 0, 2), (42, 3, 6), (42, 5, 9), (42, 7, 4), (42, 9, 9), (42, 12, 13), (42, 14, 4), (42, 16, 4), (42, 17, 19), (50, 0, 0), (50, 10, 1), (54, 0, 2), (54, 3, 13), (54, 5, 10), (54, 7, 15), (54, 9, 13), (54, 11, 9), (54, 17, 1), (54, 27, 1), (54, 29, 1), (64, 0, 2), (64, 10, 1), (65, 0, 2), (65, 11, 1), (86, 0, 1), (86, 2, 4), (86, 3, 6)], varis := [(7, 4, 6, 1), (15, 1, 6, 1), (15, 2, 5, 1), (58, 3, 2, 1)] }
theorem TAB_chk : TAB.chk Try.prog = true := by kernel_rfl
theorem MO : Try.prog.follows .mixedOrders = true := by kernel_rfl
end Go.Proofs.Ytdfjodnkplbffaa.Vm
open Go Go.VM
set_option linter.unusedVariables false
set_option maxRecDepth 100000
set_option maxHeartbeats 4000000
namespace Go.Proofs.Ytdfjodnkplbffaa.Vm
/-! ### cotillion/cotillionref37.Place: function 29 -/
def L29 {R : Type} (_ : ORC R) (_ : Nat) : Nat → St → (Ex → St → Option R) → Option R := fun _ _ _ => none
def f29 {R : Type} (G : ORC R) (k : Nat) (ai1 ai2 : Int) (K : List V → Option R) : Option R :=
  (bif (!(ai2 == 0)) then (bif (decide ((Int.tmod ai1 ai2) < 0)) then (K [(.int .i64 (IntKind.i64.wrap ((Int.tmod ai1 ai2) + ai2)))]) else (K [(.int .i64 (Int.tmod ai1 ai2))])) else none)
theorem f29_is {R : Type} (G : ORC R) (k : Nat) (K : List V → Option R) (ai1 ai2 : Int) :
    callF (TAB.env 29) G (L29 G k) Try.f29 S29 [(.int .i64 ai1), (.int .i64 ai2)] K = f29 G k ai1 ai2 K := by kernel_rfl
theorem lo29 : loopsOf (bodyOf Try.f29) = [] := by kernel_rfl
theorem la29 {R : Type} (G : ORC R) (k : Nat) : LoopsAre (TAB.env 29) G (L29 G k) (bodyOf Try.f29) :=
  loopsAre_of (by rw [lo29]; intro p hp; cases hp)
def g29 {R : Type} (G : ORC R) (k : Nat) (args : List V) (K : List V → Option R) : Option R := match args with
  | [(.int .i64 ai1), (.int .i64 ai2)] => f29 G k ai1 ai2 K
  | _ => none
theorem s29 {R : Type} {G : ORC R} {k : Nat} (hG : Sound Try.prog TAB G) (args : List V) (K : List V → Option R) (r : R) (h : g29 G k args K = some r) : ∃ o, CallOK Try.prog TAB.env 29 args o ∧ K o = some r := by
  unfold g29 at h
  split at h
  · rw [← f29_is] at h
    exact callF_sound (f := 29) TAB_chk MO hG Try.func29 (sg := S29) (by kernel_rfl) (by kernel_rfl) (la29 G k) h
  · cases h
end Go.Proofs.Ytdfjodnkplbffaa.Vm
open Go Go.VM
set_option linter.unusedVariables false
set_option maxRecDepth 100000
set_option maxHeartbeats 4000000
namespace Go.Proofs.Ytdfjodnkplbffaa.Vm
/-! ### (*cotillion/cotillionref37.Row).Next: function 36 -/
def L36 {R : Type} (_ : ORC R) (_ : Nat) : Nat → St → (Ex → St → Option R) → Option R := fun _ _ _ => none
def f36 {R : Type} (G : ORC R) (k : Nat) (ai1 : Int) (bl2 : List V) (bi3 : Int) (K : List V → Option R) : Option R :=
  (bif (decide (bi3 ≥ ((List.length bl2 : Nat) : Int))) then (K [(.int .i64 0), (.int .i64 bi3)]) else (bif ((decide (0 ≤ (IntKind.i64.wrap ((IntKind.i64.wrap (bi3 + 1)) - 1)))) && (decide ((IntKind.i64.wrap ((IntKind.i64.wrap (bi3 + 1)) - 1)) < ((List.length bl2 : Nat) : Int)))) then (nthK bl2 (Int.toNat (IntKind.i64.wrap ((IntKind.i64.wrap (bi3 + 1)) - 1))) fun e4 => (aI .i64 e4 fun n5 => (G 29 [(.int .i64 n5), (.int .i64 ai1)] fun o6 => (uI .i64 o6 fun n8 r7 => (unNil r7 (K [(.int .i64 n8), (.int .i64 (IntKind.i64.wrap (bi3 + 1)))])))))) else none))
theorem f36_is {R : Type} (G : ORC R) (k : Nat) (K : List V → Option R) (ai1 : Int) (bl2 : List V) (bi3 : Int) :
    callF (TAB.env 36) G (L36 G k) Try.f36 S36 [(.int .i64 ai1), (.sl 1 bl2), (.int .i64 bi3)] K = f36 G k ai1 bl2 bi3 K := by kernel_rfl
theorem lo36 : loopsOf (bodyOf Try.f36) = [] := by kernel_rfl
theorem la36 {R : Type} (G : ORC R) (k : Nat) : LoopsAre (TAB.env 36) G (L36 G k) (bodyOf Try.f36) :=
  loopsAre_of (by rw [lo36]; intro p hp; cases hp)
def g36 {R : Type} (G : ORC R) (k : Nat) (args : List V) (K : List V → Option R) : Option R := match args with
  | [(.int .i64 ai1), (.sl 1 bl2), (.int .i64 bi3)] => f36 G k ai1 bl2 bi3 K
  | _ => none
theorem s36 {R : Type} {G : ORC R} {k : Nat} (hG : Sound Try.prog TAB G) (args : List V) (K : List V → Option R) (r : R) (h : g36 G k args K = some r) : ∃ o, CallOK Try.prog TAB.env 36 args o ∧ K o = some r := by
  unfold g36 at h
  split at h
  · rw [← f36_is] at h
    exact callF_sound (f := 36) TAB_chk MO hG Try.func36 (sg := S36) (by kernel_rfl) (by kernel_rfl) (la36 G k) h
  · cases h
end Go.Proofs.Ytdfjodnkplbffaa.Vm
open Go Go.VM
set_option linter.unusedVariables false
set_option maxRecDepth 100000
set_option maxHeartbeats 4000000
namespace Go.Proofs.Ytdfjodnkplbffaa.Vm
/-! ### cotillion/cotillionref37.pick: function 37 -/
def L37 {R : Type} (_ : ORC R) (_ : Nat) : Nat → St → (Ex → St → Option R) → Option R := fun _ _ _ => none
def f37 {R : Type} (G : ORC R) (k : Nat) (al1 : List V) (as2 : ByteArray) (bl3 : List V) (bi4 : Int) (K : List V → Option R) : Option R :=
  (bif (((List.length al1 : Nat) : Int) == 0) then (K [(.str as2), (.int .i64 bi4)]) else (G 36 [(.int .i64 ((List.length al1 : Nat) : Int)), (.sl 1 bl3), (.int .i64 bi4)] fun o5 => (uI .i64 o5 fun n7 r6 => (uI .i64 r6 fun n9 r8 => (unNil r8 (bif ((decide (0 ≤ n7)) && (decide (n7 < ((List.length al1 : Nat) : Int)))) then (nthK al1 (Int.toNat n7) fun e10 => (V.asStr e10 fun s11 => (K [(.str s11), (.int .i64 n9)]))) else none))))))
theorem f37_is {R : Type} (G : ORC R) (k : Nat) (K : List V → Option R) (al1 : List V) (as2 : ByteArray) (bl3 : List V) (bi4 : Int) :
    callF (TAB.env 37) G (L37 G k) Try.f37 S37 [(.sl 1 al1), (.str as2), (.sl 1 bl3), (.int .i64 bi4)] K = f37 G k al1 as2 bl3 bi4 K := by kernel_rfl
theorem lo37 : loopsOf (bodyOf Try.f37) = [] := by kernel_rfl
theorem la37 {R : Type} (G : ORC R) (k : Nat) : LoopsAre (TAB.env 37) G (L37 G k) (bodyOf Try.f37) :=
  loopsAre_of (by rw [lo37]; intro p hp; cases hp)
def g37 {R : Type} (G : ORC R) (k : Nat) (args : List V) (K : List V → Option R) : Option R := match args with
  | [(.sl 1 al1), (.str as2), (.sl 1 bl3), (.int .i64 bi4)] => f37 G k al1 as2 bl3 bi4 K
  | _ => none
theorem s37 {R : Type} {G : ORC R} {k : Nat} (hG : Sound Try.prog TAB G) (args : List V) (K : List V → Option R) (r : R) (h : g37 G k args K = some r) : ∃ o, CallOK Try.prog TAB.env 37 args o ∧ K o = some r := by
  unfold g37 at h
  split at h
  · rw [← f37_is] at h
    exact callF_sound (f := 37) TAB_chk MO hG Try.func37 (sg := S37) (by kernel_rfl) (by kernel_rfl) (la37 G k) h
  · cases h
end Go.Proofs.Ytdfjodnkplbffaa.Vm
open Go Go.VM
set_option linter.unusedVariables false
set_option maxRecDepth 100000
set_option maxHeartbeats 4000000
namespace Go.Proofs.Ytdfjodnkplbffaa.Vm
/-! ### cotillion/cotillionref37.Event: function 38 -/
def L38 {R : Type} (_ : ORC R) (_ : Nat) : Nat → St → (Ex → St → Option R) → Option R := fun _ _ _ => none
def f38 {R : Type} (G : ORC R) (k : Nat) (ai1 : Int) (K : List V → Option R) : Option R :=
  (G 29 [(.int .i64 ai1), (.int .i64 8)] fun o2 => (uI .i64 o2 fun n4 r3 => (unNil r3 (bif ((decide (0 ≤ n4)) && (decide (n4 < 8))) then (nthK [(.str ⟨#[103, 111]⟩), (.str ⟨#[112, 105, 110, 103]⟩), (.str ⟨#[112, 111, 110, 103]⟩), (.str ⟨#[101, 114, 114, 111, 114]⟩), (.str ⟨#[116, 48]⟩), (.str ⟨#[98, 97, 108, 108]⟩), (.str ⟨#[103, 111]⟩), (.str ⟨#[112, 105, 110, 103]⟩)] (Int.toNat n4) fun e5 => (K [e5])) else none))))
theorem f38_is {R : Type} (G : ORC R) (k : Nat) (K : List V → Option R) (ai1 : Int) :
    callF (TAB.env 38) G (L38 G k) Try.f38 S38 [(.int .i64 ai1)] K = f38 G k ai1 K := by kernel_rfl
theorem lo38 : loopsOf (bodyOf Try.f38) = [] := by kernel_rfl
theorem la38 {R : Type} (G : ORC R) (k : Nat) : LoopsAre (TAB.env 38) G (L38 G k) (bodyOf Try.f38) :=
  loopsAre_of (by rw [lo38]; intro p hp; cases hp)
def g38 {R : Type} (G : ORC R) (k : Nat) (args : List V) (K : List V → Option R) : Option R := match args with
  | [(.int .i64 ai1)] => f38 G k ai1 K
  | _ => none
theorem s38 {R : Type} {G : ORC R} {k : Nat} (hG : Sound Try.prog TAB G) (args : List V) (K : List V → Option R) (r : R) (h : g38 G k args K = some r) : ∃ o, CallOK Try.prog TAB.env 38 args o ∧ K o = some r := by
  unfold g38 at h
  split at h
  · rw [← f38_is] at h
    exact callF_sound (f := 38) TAB_chk MO hG Try.func38 (sg := S38) (by kernel_rfl) (by kernel_rfl) (la38 G k) h
  · cases h
end Go.Proofs.Ytdfjodnkplbffaa.Vm
open Go Go.VM
set_option linter.unusedVariables false
set_option maxRecDepth 100000
set_option maxHeartbeats 4000000
namespace Go.Proofs.Ytdfjodnkplbffaa.Vm
/-! ### cotillion/cotillionref37.Expr: function 23 -/
def L23 {R : Type} (_ : ORC R) (_ : Nat) : Nat → St → (Ex → St → Option R) → Option R := fun _ _ _ => none
def f23 {R : Type} (G : ORC R) (k : Nat) (al1 al2 : List V) (al3 al4 : List V) (ai5 : Int) (bl6 : List V) (bi7 : Int) (K : List V → Option R) : Option R :=
  (G 36 [(.int .i64 14), (.sl 1 bl6), (.int .i64 bi7)] fun o8 => (uI .i64 o8 fun n10 r9 => (uI .i64 r9 fun n12 r11 => (unNil r11 (bif (ai5 == 0) then (bif (decide (n10 > 5)) then (bif (decide ((Int.tmod n10 6) < 2)) then (G 36 [(.int .i64 6), (.sl 1 bl6), (.int .i64 n12)] fun o13 => (uI .i64 o13 fun n15 r14 => (uI .i64 r14 fun n17 r16 => (unNil r16 (bif ((decide (0 ≤ n15)) && (decide (n15 < 6))) then (nthK [(.int .i64 0), (.int .i64 1), (.int .i64 2), (.int .i64 7), (.int .i64 1099511627776), (.int .i64 9223372036854775807)] (Int.toNat n15) fun e18 => (aI .i64 e18 fun n19 => (K [(.agg [(.int .i64 1), (.int .i64 n19), (.str ⟨#[]⟩), (.sl 5 []), (.int .i64 0)]), (.int .i64 n17)]))) else none))))) else (bif ((Int.tmod n10 6) == 2) then (bif (decide (((List.length al1 : Nat) : Int) > 0)) then (G 37 [(.sl 1 al1), (.str ⟨#[]⟩), (.sl 1 bl6), (.int .i64 n12)] fun o20 => (uS o20 fun s22 r21 => (uI .i64 r21 fun n24 r23 => (unNil r23 (K [(.agg [(.int .i64 2), (.int .i64 0), (.str s22), (.sl 5 []), (.int .i64 0)]), (.int .i64 n24)]))))) else (bif ((Int.tmod n10 6) == 3) then (bif (decide (((List.length al4 : Nat) : Int) > 0)) then (G 37 [(.sl 1 al4), (.str ⟨#[]⟩), (.sl 1 bl6), (.int .i64 n12)] fun o25 => (uS o25 fun s27 r26 => (uI .i64 r26 fun n29 r28 => (unNil r28 (K [(.agg [(.int .i64 4), (.int .i64 0), (.str s27), (.sl 5 []), (.int .i64 0)]), (.int .i64 n29)]))))) else (bif (decide ((Int.tmod n10 6) < 6)) then (K [(.agg [(.int .i64 3), (.int .i64 0), (.str ⟨#[]⟩), (.sl 5 []), (.int .i64 0)]), (.int .i64 n12)]) else (bif ((Int.tmod n10 6) == 6) then (G 36 [(.int .i64 2), (.sl 1 bl6), (.int .i64 n12)] fun o30 => (uI .i64 o30 fun n32 r31 => (uI .i64 r31 fun n34 r33 => (unNil r33 (G 23 [(.agg [(.sl 1 al1), (.sl 1 al2), (.sl 1 al3), (.sl 1 al4)]), (.int .i64 (IntKind.i64.wrap (ai5 - 1))), (.sl 1 bl6), (.int .i64 n34)] fun o35 => (uA o35 fun l37 r36 => (uI .i64 l37 fun n39 r38 => (uI .i64 r38 fun n41 r40 => (uS r40 fun s43 r42 => (uL 5 r42 fun l45 r44 => (uI .i64 r44 fun n47 r46 => (unNil r46 (uI .i64 r36 fun n49 r48 => (unNil r48 (K [(.agg [(.int .i64 (IntKind.i64.wrap (5 + n32))), (.int .i64 0), (.str ⟨#[]⟩), (.sl 5 [(.agg [(.int .i64 n39), (.int .i64 n41), (.str s43), (.sl 5 l45), (.int .i64 n47)])]), (.int .i64 0)]), (.int .i64 n49)]))))))))))))))) else (G 23 [(.agg [(.sl 1 al1), (.sl 1 al2), (.sl 1 al3), (.sl 1 al4)]), (.int .i64 (IntKind.i64.wrap (ai5 - 1))), (.sl 1 bl6), (.int .i64 n12)] fun o50 => (uA o50 fun l52 r51 => (uI .i64 l52 fun n54 r53 => (uI .i64 r53 fun n56 r55 => (uS r55 fun s58 r57 => (uL 5 r57 fun l60 r59 => (uI .i64 r59 fun n62 r61 => (unNil r61 (uI .i64 r51 fun n64 r63 => (unNil r63 (G 36 [(.int .i64 13), (.sl 1 bl6), (.int .i64 n64)] fun o65 => (uI .i64 o65 fun n67 r66 => (uI .i64 r66 fun n69 r68 => (unNil r68 (G 23 [(.agg [(.sl 1 al1), (.sl 1 al2), (.sl 1 al3), (.sl 1 al4)]), (.int .i64 (IntKind.i64.wrap (ai5 - 1))), (.sl 1 bl6), (.int .i64 n69)] fun o70 => (uA o70 fun l72 r71 => (uI .i64 l72 fun n74 r73 => (uI .i64 r73 fun n76 r75 => (uS r75 fun s78 r77 => (uL 5 r77 fun l80 r79 => (uI .i64 r79 fun n82 r81 => (unNil r81 (uI .i64 r71 fun n84 r83 => (unNil r83 (K [(.agg [(.int .i64 (IntKind.i64.wrap (7 + n67))), (.int .i64 0), (.str ⟨#[]⟩), (.sl 5 [(.agg [(.int .i64 n54), (.int .i64 n56), (.str s58), (.sl 5 l60), (.int .i64 n62)]), (.agg [(.int .i64 n74), (.int .i64 n76), (.str s78), (.sl 5 l80), (.int .i64 n82)])]), (.int .i64 0)]), (.int .i64 n84)])))))))))))))))))))))))))))) else (bif (decide ((Int.tmod n10 6) < 6)) then (K [(.agg [(.int .i64 3), (.int .i64 0), (.str ⟨#[]⟩), (.sl 5 []), (.int .i64 0)]), (.int .i64 n12)]) else (bif ((Int.tmod n10 6) == 6) then (G 36 [(.int .i64 2), (.sl 1 bl6), (.int .i64 n12)] fun o85 => (uI .i64 o85 fun n87 r86 => (uI .i64 r86 fun n89 r88 => (unNil r88 (G 23 [(.agg [(.sl 1 al1), (.sl 1 al2), (.sl 1 al3), (.sl 1 al4)]), (.int .i64 (IntKind.i64.wrap (ai5 - 1))), (.sl 1 bl6), (.int .i64 n89)] fun o90 => (uA o90 fun l92 r91 => (uI .i64 l92 fun n94 r93 => (uI .i64 r93 fun n96 r95 => (uS r95 fun s98 r97 => (uL 5 r97 fun l100 r99 => (uI .i64 r99 fun n102 r101 => (unNil r101 (uI .i64 r91 fun n104 r103 => (unNil r103 (K [(.agg [(.int .i64 (IntKind.i64.wrap (5 + n87))), (.int .i64 0), (.str ⟨#[]⟩), (.sl 5 [(.agg [(.int .i64 n94), (.int .i64 n96), (.str s98), (.sl 5 l100), (.int .i64 n102)])]), (.int .i64 0)]), (.int .i64 n104)]))))))))))))))) else (G 23 [(.agg [(.sl 1 al1), (.sl 1 al2), (.sl 1 al3), (.sl 1 al4)]), (.int .i64 (IntKind.i64.wrap (ai5 - 1))), (.sl 1 bl6), (.int .i64 n12)] fun o105 => (uA o105 fun l107 r106 => (uI .i64 l107 fun n109 r108 => (uI .i64 r108 fun n111 r110 => (uS r110 fun s113 r112 => (uL 5 r112 fun l115 r114 => (uI .i64 r114 fun n117 r116 => (unNil r116 (uI .i64 r106 fun n119 r118 => (unNil r118 (G 36 [(.int .i64 13), (.sl 1 bl6), (.int .i64 n119)] fun o120 => (uI .i64 o120 fun n122 r121 => (uI .i64 r121 fun n124 r123 => (unNil r123 (G 23 [(.agg [(.sl 1 al1), (.sl 1 al2), (.sl 1 al3), (.sl 1 al4)]), (.int .i64 (IntKind.i64.wrap (ai5 - 1))), (.sl 1 bl6), (.int .i64 n124)] fun o125 => (uA o125 fun l127 r126 => (uI .i64 l127 fun n129 r128 => (uI .i64 r128 fun n131 r130 => (uS r130 fun s133 r132 => (uL 5 r132 fun l135 r134 => (uI .i64 r134 fun n137 r136 => (unNil r136 (uI .i64 r126 fun n139 r138 => (unNil r138 (K [(.agg [(.int .i64 (IntKind.i64.wrap (7 + n122))), (.int .i64 0), (.str ⟨#[]⟩), (.sl 5 [(.agg [(.int .i64 n109), (.int .i64 n111), (.str s113), (.sl 5 l115), (.int .i64 n117)]), (.agg [(.int .i64 n129), (.int .i64 n131), (.str s133), (.sl 5 l135), (.int .i64 n137)])]), (.int .i64 0)]), (.int .i64 n139)]))))))))))))))))))))))))))))) else (bif ((Int.tmod n10 6) == 3) then (bif (decide (((List.length al4 : Nat) : Int) > 0)) then (G 37 [(.sl 1 al4), (.str ⟨#[]⟩), (.sl 1 bl6), (.int .i64 n12)] fun o140 => (uS o140 fun s142 r141 => (uI .i64 r141 fun n144 r143 => (unNil r143 (K [(.agg [(.int .i64 4), (.int .i64 0), (.str s142), (.sl 5 []), (.int .i64 0)]), (.int .i64 n144)]))))) else (bif (decide ((Int.tmod n10 6) < 6)) then (K [(.agg [(.int .i64 3), (.int .i64 0), (.str ⟨#[]⟩), (.sl 5 []), (.int .i64 0)]), (.int .i64 n12)]) else (bif ((Int.tmod n10 6) == 6) then (G 36 [(.int .i64 2), (.sl 1 bl6), (.int .i64 n12)] fun o145 => (uI .i64 o145 fun n147 r146 => (uI .i64 r146 fun n149 r148 => (unNil r148 (G 23 [(.agg [(.sl 1 al1), (.sl 1 al2), (.sl 1 al3), (.sl 1 al4)]), (.int .i64 (IntKind.i64.wrap (ai5 - 1))), (.sl 1 bl6), (.int .i64 n149)] fun o150 => (uA o150 fun l152 r151 => (uI .i64 l152 fun n154 r153 => (uI .i64 r153 fun n156 r155 => (uS r155 fun s158 r157 => (uL 5 r157 fun l160 r159 => (uI .i64 r159 fun n162 r161 => (unNil r161 (uI .i64 r151 fun n164 r163 => (unNil r163 (K [(.agg [(.int .i64 (IntKind.i64.wrap (5 + n147))), (.int .i64 0), (.str ⟨#[]⟩), (.sl 5 [(.agg [(.int .i64 n154), (.int .i64 n156), (.str s158), (.sl 5 l160), (.int .i64 n162)])]), (.int .i64 0)]), (.int .i64 n164)]))))))))))))))) else (G 23 [(.agg [(.sl 1 al1), (.sl 1 al2), (.sl 1 al3), (.sl 1 al4)]), (.int .i64 (IntKind.i64.wrap (ai5 - 1))), (.sl 1 bl6), (.int .i64 n12)] fun o165 => (uA o165 fun l167 r166 => (uI .i64 l167 fun n169 r168 => (uI .i64 r168 fun n171 r170 => (uS r170 fun s173 r172 => (uL 5 r172 fun l175 r174 => (uI .i64 r174 fun n177 r176 => (unNil r176 (uI .i64 r166 fun n179 r178 => (unNil r178 (G 36 [(.int .i64 13), (.sl 1 bl6), (.int .i64 n179)] fun o180 => (uI .i64 o180 fun n182 r181 => (uI .i64 r181 fun n184 r183 => (unNil r183 (G 23 [(.agg [(.sl 1 al1), (.sl 1 al2), (.sl 1 al3), (.sl 1 al4)]), (.int .i64 (IntKind.i64.wrap (ai5 - 1))), (.sl 1 bl6), (.int .i64 n184)] fun o185 => (uA o185 fun l187 r186 => (uI .i64 l187 fun n189 r188 => (uI .i64 r188 fun n191 r190 => (uS r190 fun s193 r192 => (uL 5 r192 fun l195 r194 => (uI .i64 r194 fun n197 r196 => (unNil r196 (uI .i64 r186 fun n199 r198 => (unNil r198 (K [(.agg [(.int .i64 (IntKind.i64.wrap (7 + n182))), (.int .i64 0), (.str ⟨#[]⟩), (.sl 5 [(.agg [(.int .i64 n169), (.int .i64 n171), (.str s173), (.sl 5 l175), (.int .i64 n177)]), (.agg [(.int .i64 n189), (.int .i64 n191), (.str s193), (.sl 5 l195), (.int .i64 n197)])]), (.int .i64 0)]), (.int .i64 n199)])))))))))))))))))))))))))))) else (bif (decide ((Int.tmod n10 6) < 6)) then (K [(.agg [(.int .i64 3), (.int .i64 0), (.str ⟨#[]⟩), (.sl 5 []), (.int .i64 0)]), (.int .i64 n12)]) else (bif ((Int.tmod n10 6) == 6) then (G 36 [(.int .i64 2), (.sl 1 bl6), (.int .i64 n12)] fun o200 => (uI .i64 o200 fun n202 r201 => (uI .i64 r201 fun n204 r203 => (unNil r203 (G 23 [(.agg [(.sl 1 al1), (.sl 1 al2), (.sl 1 al3), (.sl 1 al4)]), (.int .i64 (IntKind.i64.wrap (ai5 - 1))), (.sl 1 bl6), (.int .i64 n204)] fun o205 => (uA o205 fun l207 r206 => (uI .i64 l207 fun n209 r208 => (uI .i64 r208 fun n211 r210 => (uS r210 fun s213 r212 => (uL 5 r212 fun l215 r214 => (uI .i64 r214 fun n217 r216 => (unNil r216 (uI .i64 r206 fun n219 r218 => (unNil r218 (K [(.agg [(.int .i64 (IntKind.i64.wrap (5 + n202))), (.int .i64 0), (.str ⟨#[]⟩), (.sl 5 [(.agg [(.int .i64 n209), (.int .i64 n211), (.str s213), (.sl 5 l215), (.int .i64 n217)])]), (.int .i64 0)]), (.int .i64 n219)]))))))))))))))) else (G 23 [(.agg [(.sl 1 al1), (.sl 1 al2), (.sl 1 al3), (.sl 1 al4)]), (.int .i64 (IntKind.i64.wrap (ai5 - 1))), (.sl 1 bl6), (.int .i64 n12)] fun o220 => (uA o220 fun l222 r221 => (uI .i64 l222 fun n224 r223 => (uI .i64 r223 fun n226 r225 => (uS r225 fun s228 r227 => (uL 5 r227 fun l230 r229 => (uI .i64 r229 fun n232 r231 => (unNil r231 (uI .i64 r221 fun n234 r233 => (unNil r233 (G 36 [(.int .i64 13), (.sl 1 bl6), (.int .i64 n234)] fun o235 => (uI .i64 o235 fun n237 r236 => (uI .i64 r236 fun n239 r238 => (unNil r238 (G 23 [(.agg [(.sl 1 al1), (.sl 1 al2), (.sl 1 al3), (.sl 1 al4)]), (.int .i64 (IntKind.i64.wrap (ai5 - 1))), (.sl 1 bl6), (.int .i64 n239)] fun o240 => (uA o240 fun l242 r241 => (uI .i64 l242 fun n244 r243 => (uI .i64 r243 fun n246 r245 => (uS r245 fun s248 r247 => (uL 5 r247 fun l250 r249 => (uI .i64 r249 fun n252 r251 => (unNil r251 (uI .i64 r241 fun n254 r253 => (unNil r253 (K [(.agg [(.int .i64 (IntKind.i64.wrap (7 + n237))), (.int .i64 0), (.str ⟨#[]⟩), (.sl 5 [(.agg [(.int .i64 n224), (.int .i64 n226), (.str s228), (.sl 5 l230), (.int .i64 n232)]), (.agg [(.int .i64 n244), (.int .i64 n246), (.str s248), (.sl 5 l250), (.int .i64 n252)])]), (.int .i64 0)]), (.int .i64 n254)])))))))))))))))))))))))))))))) else (bif (decide (n10 < 2)) then (G 36 [(.int .i64 6), (.sl 1 bl6), (.int .i64 n12)] fun o255 => (uI .i64 o255 fun n257 r256 => (uI .i64 r256 fun n259 r258 => (unNil r258 (bif ((decide (0 ≤ n257)) && (decide (n257 < 6))) then (nthK [(.int .i64 0), (.int .i64 1), (.int .i64 2), (.int .i64 7), (.int .i64 1099511627776), (.int .i64 9223372036854775807)] (Int.toNat n257) fun e260 => (aI .i64 e260 fun n261 => (K [(.agg [(.int .i64 1), (.int .i64 n261), (.str ⟨#[]⟩), (.sl 5 []), (.int .i64 0)]), (.int .i64 n259)]))) else none))))) else (bif (n10 == 2) then (bif (decide (((List.length al1 : Nat) : Int) > 0)) then (G 37 [(.sl 1 al1), (.str ⟨#[]⟩), (.sl 1 bl6), (.int .i64 n12)] fun o262 => (uS o262 fun s264 r263 => (uI .i64 r263 fun n266 r265 => (unNil r265 (K [(.agg [(.int .i64 2), (.int .i64 0), (.str s264), (.sl 5 []), (.int .i64 0)]), (.int .i64 n266)]))))) else (bif (n10 == 3) then (bif (decide (((List.length al4 : Nat) : Int) > 0)) then (G 37 [(.sl 1 al4), (.str ⟨#[]⟩), (.sl 1 bl6), (.int .i64 n12)] fun o267 => (uS o267 fun s269 r268 => (uI .i64 r268 fun n271 r270 => (unNil r270 (K [(.agg [(.int .i64 4), (.int .i64 0), (.str s269), (.sl 5 []), (.int .i64 0)]), (.int .i64 n271)]))))) else (bif (decide (n10 < 6)) then (K [(.agg [(.int .i64 3), (.int .i64 0), (.str ⟨#[]⟩), (.sl 5 []), (.int .i64 0)]), (.int .i64 n12)]) else (bif (n10 == 6) then (G 36 [(.int .i64 2), (.sl 1 bl6), (.int .i64 n12)] fun o272 => (uI .i64 o272 fun n274 r273 => (uI .i64 r273 fun n276 r275 => (unNil r275 (G 23 [(.agg [(.sl 1 al1), (.sl 1 al2), (.sl 1 al3), (.sl 1 al4)]), (.int .i64 (IntKind.i64.wrap (ai5 - 1))), (.sl 1 bl6), (.int .i64 n276)] fun o277 => (uA o277 fun l279 r278 => (uI .i64 l279 fun n281 r280 => (uI .i64 r280 fun n283 r282 => (uS r282 fun s285 r284 => (uL 5 r284 fun l287 r286 => (uI .i64 r286 fun n289 r288 => (unNil r288 (uI .i64 r278 fun n291 r290 => (unNil r290 (K [(.agg [(.int .i64 (IntKind.i64.wrap (5 + n274))), (.int .i64 0), (.str ⟨#[]⟩), (.sl 5 [(.agg [(.int .i64 n281), (.int .i64 n283), (.str s285), (.sl 5 l287), (.int .i64 n289)])]), (.int .i64 0)]), (.int .i64 n291)]))))))))))))))) else (G 23 [(.agg [(.sl 1 al1), (.sl 1 al2), (.sl 1 al3), (.sl 1 al4)]), (.int .i64 (IntKind.i64.wrap (ai5 - 1))), (.sl 1 bl6), (.int .i64 n12)] fun o292 => (uA o292 fun l294 r293 => (uI .i64 l294 fun n296 r295 => (uI .i64 r295 fun n298 r297 => (uS r297 fun s300 r299 => (uL 5 r299 fun l302 r301 => (uI .i64 r301 fun n304 r303 => (unNil r303 (uI .i64 r293 fun n306 r305 => (unNil r305 (G 36 [(.int .i64 13), (.sl 1 bl6), (.int .i64 n306)] fun o307 => (uI .i64 o307 fun n309 r308 => (uI .i64 r308 fun n311 r310 => (unNil r310 (G 23 [(.agg [(.sl 1 al1), (.sl 1 al2), (.sl 1 al3), (.sl 1 al4)]), (.int .i64 (IntKind.i64.wrap (ai5 - 1))), (.sl 1 bl6), (.int .i64 n311)] fun o312 => (uA o312 fun l314 r313 => (uI .i64 l314 fun n316 r315 => (uI .i64 r315 fun n318 r317 => (uS r317 fun s320 r319 => (uL 5 r319 fun l322 r321 => (uI .i64 r321 fun n324 r323 => (unNil r323 (uI .i64 r313 fun n326 r325 => (unNil r325 (K [(.agg [(.int .i64 (IntKind.i64.wrap (7 + n309))), (.int .i64 0), (.str ⟨#[]⟩), (.sl 5 [(.agg [(.int .i64 n296), (.int .i64 n298), (.str s300), (.sl 5 l302), (.int .i64 n304)]), (.agg [(.int .i64 n316), (.int .i64 n318), (.str s320), (.sl 5 l322), (.int .i64 n324)])]), (.int .i64 0)]), (.int .i64 n326)])))))))))))))))))))))))))))) else (bif (decide (n10 < 6)) then (K [(.agg [(.int .i64 3), (.int .i64 0), (.str ⟨#[]⟩), (.sl 5 []), (.int .i64 0)]), (.int .i64 n12)]) else (bif (n10 == 6) then (G 36 [(.int .i64 2), (.sl 1 bl6), (.int .i64 n12)] fun o327 => (uI .i64 o327 fun n329 r328 => (uI .i64 r328 fun n331 r330 => (unNil r330 (G 23 [(.agg [(.sl 1 al1), (.sl 1 al2), (.sl 1 al3), (.sl 1 al4)]), (.int .i64 (IntKind.i64.wrap (ai5 - 1))), (.sl 1 bl6), (.int .i64 n331)] fun o332 => (uA o332 fun l334 r333 => (uI .i64 l334 fun n336 r335 => (uI .i64 r335 fun n338 r337 => (uS r337 fun s340 r339 => (uL 5 r339 fun l342 r341 => (uI .i64 r341 fun n344 r343 => (unNil r343 (uI .i64 r333 fun n346 r345 => (unNil r345 (K [(.agg [(.int .i64 (IntKind.i64.wrap (5 + n329))), (.int .i64 0), (.str ⟨#[]⟩), (.sl 5 [(.agg [(.int .i64 n336), (.int .i64 n338), (.str s340), (.sl 5 l342), (.int .i64 n344)])]), (.int .i64 0)]), (.int .i64 n346)]))))))))))))))) else (G 23 [(.agg [(.sl 1 al1), (.sl 1 al2), (.sl 1 al3), (.sl 1 al4)]), (.int .i64 (IntKind.i64.wrap (ai5 - 1))), (.sl 1 bl6), (.int .i64 n12)] fun o347 => (uA o347 fun l349 r348 => (uI .i64 l349 fun n351 r350 => (uI .i64 r350 fun n353 r352 => (uS r352 fun s355 r354 => (uL 5 r354 fun l357 r356 => (uI .i64 r356 fun n359 r358 => (unNil r358 (uI .i64 r348 fun n361 r360 => (unNil r360 (G 36 [(.int .i64 13), (.sl 1 bl6), (.int .i64 n361)] fun o362 => (uI .i64 o362 fun n364 r363 => (uI .i64 r363 fun n366 r365 => (unNil r365 (G 23 [(.agg [(.sl 1 al1), (.sl 1 al2), (.sl 1 al3), (.sl 1 al4)]), (.int .i64 (IntKind.i64.wrap (ai5 - 1))), (.sl 1 bl6), (.int .i64 n366)] fun o367 => (uA o367 fun l369 r368 => (uI .i64 l369 fun n371 r370 => (uI .i64 r370 fun n373 r372 => (uS r372 fun s375 r374 => (uL 5 r374 fun l377 r376 => (uI .i64 r376 fun n379 r378 => (unNil r378 (uI .i64 r368 fun n381 r380 => (unNil r380 (K [(.agg [(.int .i64 (IntKind.i64.wrap (7 + n364))), (.int .i64 0), (.str ⟨#[]⟩), (.sl 5 [(.agg [(.int .i64 n351), (.int .i64 n353), (.str s355), (.sl 5 l357), (.int .i64 n359)]), (.agg [(.int .i64 n371), (.int .i64 n373), (.str s375), (.sl 5 l377), (.int .i64 n379)])]), (.int .i64 0)]), (.int .i64 n381)]))))))))))))))))))))))))))))) else (bif (n10 == 3) then (bif (decide (((List.length al4 : Nat) : Int) > 0)) then (G 37 [(.sl 1 al4), (.str ⟨#[]⟩), (.sl 1 bl6), (.int .i64 n12)] fun o382 => (uS o382 fun s384 r383 => (uI .i64 r383 fun n386 r385 => (unNil r385 (K [(.agg [(.int .i64 4), (.int .i64 0), (.str s384), (.sl 5 []), (.int .i64 0)]), (.int .i64 n386)]))))) else (bif (decide (n10 < 6)) then (K [(.agg [(.int .i64 3), (.int .i64 0), (.str ⟨#[]⟩), (.sl 5 []), (.int .i64 0)]), (.int .i64 n12)]) else (bif (n10 == 6) then (G 36 [(.int .i64 2), (.sl 1 bl6), (.int .i64 n12)] fun o387 => (uI .i64 o387 fun n389 r388 => (uI .i64 r388 fun n391 r390 => (unNil r390 (G 23 [(.agg [(.sl 1 al1), (.sl 1 al2), (.sl 1 al3), (.sl 1 al4)]), (.int .i64 (IntKind.i64.wrap (ai5 - 1))), (.sl 1 bl6), (.int .i64 n391)] fun o392 => (uA o392 fun l394 r393 => (uI .i64 l394 fun n396 r395 => (uI .i64 r395 fun n398 r397 => (uS r397 fun s400 r399 => (uL 5 r399 fun l402 r401 => (uI .i64 r401 fun n404 r403 => (unNil r403 (uI .i64 r393 fun n406 r405 => (unNil r405 (K [(.agg [(.int .i64 (IntKind.i64.wrap (5 + n389))), (.int .i64 0), (.str ⟨#[]⟩), (.sl 5 [(.agg [(.int .i64 n396), (.int .i64 n398), (.str s400), (.sl 5 l402), (.int .i64 n404)])]), (.int .i64 0)]), (.int .i64 n406)]))))))))))))))) else (G 23 [(.agg [(.sl 1 al1), (.sl 1 al2), (.sl 1 al3), (.sl 1 al4)]), (.int .i64 (IntKind.i64.wrap (ai5 - 1))), (.sl 1 bl6), (.int .i64 n12)] fun o407 => (uA o407 fun l409 r408 => (uI .i64 l409 fun n411 r410 => (uI .i64 r410 fun n413 r412 => (uS r412 fun s415 r414 => (uL 5 r414 fun l417 r416 => (uI .i64 r416 fun n419 r418 => (unNil r418 (uI .i64 r408 fun n421 r420 => (unNil r420 (G 36 [(.int .i64 13), (.sl 1 bl6), (.int .i64 n421)] fun o422 => (uI .i64 o422 fun n424 r423 => (uI .i64 r423 fun n426 r425 => (unNil r425 (G 23 [(.agg [(.sl 1 al1), (.sl 1 al2), (.sl 1 al3), (.sl 1 al4)]), (.int .i64 (IntKind.i64.wrap (ai5 - 1))), (.sl 1 bl6), (.int .i64 n426)] fun o427 => (uA o427 fun l429 r428 => (uI .i64 l429 fun n431 r430 => (uI .i64 r430 fun n433 r432 => (uS r432 fun s435 r434 => (uL 5 r434 fun l437 r436 => (uI .i64 r436 fun n439 r438 => (unNil r438 (uI .i64 r428 fun n441 r440 => (unNil r440 (K [(.agg [(.int .i64 (IntKind.i64.wrap (7 + n424))), (.int .i64 0), (.str ⟨#[]⟩), (.sl 5 [(.agg [(.int .i64 n411), (.int .i64 n413), (.str s415), (.sl 5 l417), (.int .i64 n419)]), (.agg [(.int .i64 n431), (.int .i64 n433), (.str s435), (.sl 5 l437), (.int .i64 n439)])]), (.int .i64 0)]), (.int .i64 n441)])))))))))))))))))))))))))))) else (bif (decide (n10 < 6)) then (K [(.agg [(.int .i64 3), (.int .i64 0), (.str ⟨#[]⟩), (.sl 5 []), (.int .i64 0)]), (.int .i64 n12)]) else (bif (n10 == 6) then (G 36 [(.int .i64 2), (.sl 1 bl6), (.int .i64 n12)] fun o442 => (uI .i64 o442 fun n444 r443 => (uI .i64 r443 fun n446 r445 => (unNil r445 (G 23 [(.agg [(.sl 1 al1), (.sl 1 al2), (.sl 1 al3), (.sl 1 al4)]), (.int .i64 (IntKind.i64.wrap (ai5 - 1))), (.sl 1 bl6), (.int .i64 n446)] fun o447 => (uA o447 fun l449 r448 => (uI .i64 l449 fun n451 r450 => (uI .i64 r450 fun n453 r452 => (uS r452 fun s455 r454 => (uL 5 r454 fun l457 r456 => (uI .i64 r456 fun n459 r458 => (unNil r458 (uI .i64 r448 fun n461 r460 => (unNil r460 (K [(.agg [(.int .i64 (IntKind.i64.wrap (5 + n444))), (.int .i64 0), (.str ⟨#[]⟩), (.sl 5 [(.agg [(.int .i64 n451), (.int .i64 n453), (.str s455), (.sl 5 l457), (.int .i64 n459)])]), (.int .i64 0)]), (.int .i64 n461)]))))))))))))))) else (G 23 [(.agg [(.sl 1 al1), (.sl 1 al2), (.sl 1 al3), (.sl 1 al4)]), (.int .i64 (IntKind.i64.wrap (ai5 - 1))), (.sl 1 bl6), (.int .i64 n12)] fun o462 => (uA o462 fun l464 r463 => (uI .i64 l464 fun n466 r465 => (uI .i64 r465 fun n468 r467 => (uS r467 fun s470 r469 => (uL 5 r469 fun l472 r471 => (uI .i64 r471 fun n474 r473 => (unNil r473 (uI .i64 r463 fun n476 r475 => (unNil r475 (G 36 [(.int .i64 13), (.sl 1 bl6), (.int .i64 n476)] fun o477 => (uI .i64 o477 fun n479 r478 => (uI .i64 r478 fun n481 r480 => (unNil r480 (G 23 [(.agg [(.sl 1 al1), (.sl 1 al2), (.sl 1 al3), (.sl 1 al4)]), (.int .i64 (IntKind.i64.wrap (ai5 - 1))), (.sl 1 bl6), (.int .i64 n481)] fun o482 => (uA o482 fun l484 r483 => (uI .i64 l484 fun n486 r485 => (uI .i64 r485 fun n488 r487 => (uS r487 fun s490 r489 => (uL 5 r489 fun l492 r491 => (uI .i64 r491 fun n494 r493 => (unNil r493 (uI .i64 r483 fun n496 r495 => (unNil r495 (K [(.agg [(.int .i64 (IntKind.i64.wrap (7 + n479))), (.int .i64 0), (.str ⟨#[]⟩), (.sl 5 [(.agg [(.int .i64 n466), (.int .i64 n468), (.str s470), (.sl 5 l472), (.int .i64 n474)]), (.agg [(.int .i64 n486), (.int .i64 n488), (.str s490), (.sl 5 l492), (.int .i64 n494)])]), (.int .i64 0)]), (.int .i64 n496)]))))))))))))))))))))))))))))))) else (bif (decide (n10 < 2)) then (G 36 [(.int .i64 6), (.sl 1 bl6), (.int .i64 n12)] fun o497 => (uI .i64 o497 fun n499 r498 => (uI .i64 r498 fun n501 r500 => (unNil r500 (bif ((decide (0 ≤ n499)) && (decide (n499 < 6))) then (nthK [(.int .i64 0), (.int .i64 1), (.int .i64 2), (.int .i64 7), (.int .i64 1099511627776), (.int .i64 9223372036854775807)] (Int.toNat n499) fun e502 => (aI .i64 e502 fun n503 => (K [(.agg [(.int .i64 1), (.int .i64 n503), (.str ⟨#[]⟩), (.sl 5 []), (.int .i64 0)]), (.int .i64 n501)]))) else none))))) else (bif (n10 == 2) then (bif (decide (((List.length al1 : Nat) : Int) > 0)) then (G 37 [(.sl 1 al1), (.str ⟨#[]⟩), (.sl 1 bl6), (.int .i64 n12)] fun o504 => (uS o504 fun s506 r505 => (uI .i64 r505 fun n508 r507 => (unNil r507 (K [(.agg [(.int .i64 2), (.int .i64 0), (.str s506), (.sl 5 []), (.int .i64 0)]), (.int .i64 n508)]))))) else (bif (n10 == 3) then (bif (decide (((List.length al4 : Nat) : Int) > 0)) then (G 37 [(.sl 1 al4), (.str ⟨#[]⟩), (.sl 1 bl6), (.int .i64 n12)] fun o509 => (uS o509 fun s511 r510 => (uI .i64 r510 fun n513 r512 => (unNil r512 (K [(.agg [(.int .i64 4), (.int .i64 0), (.str s511), (.sl 5 []), (.int .i64 0)]), (.int .i64 n513)]))))) else (bif (decide (n10 < 6)) then (K [(.agg [(.int .i64 3), (.int .i64 0), (.str ⟨#[]⟩), (.sl 5 []), (.int .i64 0)]), (.int .i64 n12)]) else (bif (n10 == 6) then (G 36 [(.int .i64 2), (.sl 1 bl6), (.int .i64 n12)] fun o514 => (uI .i64 o514 fun n516 r515 => (uI .i64 r515 fun n518 r517 => (unNil r517 (G 23 [(.agg [(.sl 1 al1), (.sl 1 al2), (.sl 1 al3), (.sl 1 al4)]), (.int .i64 (IntKind.i64.wrap (ai5 - 1))), (.sl 1 bl6), (.int .i64 n518)] fun o519 => (uA o519 fun l521 r520 => (uI .i64 l521 fun n523 r522 => (uI .i64 r522 fun n525 r524 => (uS r524 fun s527 r526 => (uL 5 r526 fun l529 r528 => (uI .i64 r528 fun n531 r530 => (unNil r530 (uI .i64 r520 fun n533 r532 => (unNil r532 (K [(.agg [(.int .i64 (IntKind.i64.wrap (5 + n516))), (.int .i64 0), (.str ⟨#[]⟩), (.sl 5 [(.agg [(.int .i64 n523), (.int .i64 n525), (.str s527), (.sl 5 l529), (.int .i64 n531)])]), (.int .i64 0)]), (.int .i64 n533)]))))))))))))))) else (G 23 [(.agg [(.sl 1 al1), (.sl 1 al2), (.sl 1 al3), (.sl 1 al4)]), (.int .i64 (IntKind.i64.wrap (ai5 - 1))), (.sl 1 bl6), (.int .i64 n12)] fun o534 => (uA o534 fun l536 r535 => (uI .i64 l536 fun n538 r537 => (uI .i64 r537 fun n540 r539 => (uS r539 fun s542 r541 => (uL 5 r541 fun l544 r543 => (uI .i64 r543 fun n546 r545 => (unNil r545 (uI .i64 r535 fun n548 r547 => (unNil r547 (G 36 [(.int .i64 13), (.sl 1 bl6), (.int .i64 n548)] fun o549 => (uI .i64 o549 fun n551 r550 => (uI .i64 r550 fun n553 r552 => (unNil r552 (G 23 [(.agg [(.sl 1 al1), (.sl 1 al2), (.sl 1 al3), (.sl 1 al4)]), (.int .i64 (IntKind.i64.wrap (ai5 - 1))), (.sl 1 bl6), (.int .i64 n553)] fun o554 => (uA o554 fun l556 r555 => (uI .i64 l556 fun n558 r557 => (uI .i64 r557 fun n560 r559 => (uS r559 fun s562 r561 => (uL 5 r561 fun l564 r563 => (uI .i64 r563 fun n566 r565 => (unNil r565 (uI .i64 r555 fun n568 r567 => (unNil r567 (K [(.agg [(.int .i64 (IntKind.i64.wrap (7 + n551))), (.int .i64 0), (.str ⟨#[]⟩), (.sl 5 [(.agg [(.int .i64 n538), (.int .i64 n540), (.str s542), (.sl 5 l544), (.int .i64 n546)]), (.agg [(.int .i64 n558), (.int .i64 n560), (.str s562), (.sl 5 l564), (.int .i64 n566)])]), (.int .i64 0)]), (.int .i64 n568)])))))))))))))))))))))))))))) else (bif (decide (n10 < 6)) then (K [(.agg [(.int .i64 3), (.int .i64 0), (.str ⟨#[]⟩), (.sl 5 []), (.int .i64 0)]), (.int .i64 n12)]) else (bif (n10 == 6) then (G 36 [(.int .i64 2), (.sl 1 bl6), (.int .i64 n12)] fun o569 => (uI .i64 o569 fun n571 r570 => (uI .i64 r570 fun n573 r572 => (unNil r572 (G 23 [(.agg [(.sl 1 al1), (.sl 1 al2), (.sl 1 al3), (.sl 1 al4)]), (.int .i64 (IntKind.i64.wrap (ai5 - 1))), (.sl 1 bl6), (.int .i64 n573)] fun o574 => (uA o574 fun l576 r575 => (uI .i64 l576 fun n578 r577 => (uI .i64 r577 fun n580 r579 => (uS r579 fun s582 r581 => (uL 5 r581 fun l584 r583 => (uI .i64 r583 fun n586 r585 => (unNil r585 (uI .i64 r575 fun n588 r587 => (unNil r587 (K [(.agg [(.int .i64 (IntKind.i64.wrap (5 + n571))), (.int .i64 0), (.str ⟨#[]⟩), (.sl 5 [(.agg [(.int .i64 n578), (.int .i64 n580), (.str s582), (.sl 5 l584), (.int .i64 n586)])]), (.int .i64 0)]), (.int .i64 n588)]))))))))))))))) else (G 23 [(.agg [(.sl 1 al1), (.sl 1 al2), (.sl 1 al3), (.sl 1 al4)]), (.int .i64 (IntKind.i64.wrap (ai5 - 1))), (.sl 1 bl6), (.int .i64 n12)] fun o589 => (uA o589 fun l591 r590 => (uI .i64 l591 fun n593 r592 => (uI .i64 r592 fun n595 r594 => (uS r594 fun s597 r596 => (uL 5 r596 fun l599 r598 => (uI .i64 r598 fun n601 r600 => (unNil r600 (uI .i64 r590 fun n603 r602 => (unNil r602 (G 36 [(.int .i64 13), (.sl 1 bl6), (.int .i64 n603)] fun o604 => (uI .i64 o604 fun n606 r605 => (uI .i64 r605 fun n608 r607 => (unNil r607 (G 23 [(.agg [(.sl 1 al1), (.sl 1 al2), (.sl 1 al3), (.sl 1 al4)]), (.int .i64 (IntKind.i64.wrap (ai5 - 1))), (.sl 1 bl6), (.int .i64 n608)] fun o609 => (uA o609 fun l611 r610 => (uI .i64 l611 fun n613 r612 => (uI .i64 r612 fun n615 r614 => (uS r614 fun s617 r616 => (uL 5 r616 fun l619 r618 => (uI .i64 r618 fun n621 r620 => (unNil r620 (uI .i64 r610 fun n623 r622 => (unNil r622 (K [(.agg [(.int .i64 (IntKind.i64.wrap (7 + n606))), (.int .i64 0), (.str ⟨#[]⟩), (.sl 5 [(.agg [(.int .i64 n593), (.int .i64 n595), (.str s597), (.sl 5 l599), (.int .i64 n601)]), (.agg [(.int .i64 n613), (.int .i64 n615), (.str s617), (.sl 5 l619), (.int .i64 n621)])]), (.int .i64 0)]), (.int .i64 n623)]))))))))))))))))))))))))))))) else (bif (n10 == 3) then (bif (decide (((List.length al4 : Nat) : Int) > 0)) then (G 37 [(.sl 1 al4), (.str ⟨#[]⟩), (.sl 1 bl6), (.int .i64 n12)] fun o624 => (uS o624 fun s626 r625 => (uI .i64 r625 fun n628 r627 => (unNil r627 (K [(.agg [(.int .i64 4), (.int .i64 0), (.str s626), (.sl 5 []), (.int .i64 0)]), (.int .i64 n628)]))))) else (bif (decide (n10 < 6)) then (K [(.agg [(.int .i64 3), (.int .i64 0), (.str ⟨#[]⟩), (.sl 5 []), (.int .i64 0)]), (.int .i64 n12)]) else (bif (n10 == 6) then (G 36 [(.int .i64 2), (.sl 1 bl6), (.int .i64 n12)] fun o629 => (uI .i64 o629 fun n631 r630 => (uI .i64 r630 fun n633 r632 => (unNil r632 (G 23 [(.agg [(.sl 1 al1), (.sl 1 al2), (.sl 1 al3), (.sl 1 al4)]), (.int .i64 (IntKind.i64.wrap (ai5 - 1))), (.sl 1 bl6), (.int .i64 n633)] fun o634 => (uA o634 fun l636 r635 => (uI .i64 l636 fun n638 r637 => (uI .i64 r637 fun n640 r639 => (uS r639 fun s642 r641 => (uL 5 r641 fun l644 r643 => (uI .i64 r643 fun n646 r645 => (unNil r645 (uI .i64 r635 fun n648 r647 => (unNil r647 (K [(.agg [(.int .i64 (IntKind.i64.wrap (5 + n631))), (.int .i64 0), (.str ⟨#[]⟩), (.sl 5 [(.agg [(.int .i64 n638), (.int .i64 n640), (.str s642), (.sl 5 l644), (.int .i64 n646)])]), (.int .i64 0)]), (.int .i64 n648)]))))))))))))))) else (G 23 [(.agg [(.sl 1 al1), (.sl 1 al2), (.sl 1 al3), (.sl 1 al4)]), (.int .i64 (IntKind.i64.wrap (ai5 - 1))), (.sl 1 bl6), (.int .i64 n12)] fun o649 => (uA o649 fun l651 r650 => (uI .i64 l651 fun n653 r652 => (uI .i64 r652 fun n655 r654 => (uS r654 fun s657 r656 => (uL 5 r656 fun l659 r658 => (uI .i64 r658 fun n661 r660 => (unNil r660 (uI .i64 r650 fun n663 r662 => (unNil r662 (G 36 [(.int .i64 13), (.sl 1 bl6), (.int .i64 n663)] fun o664 => (uI .i64 o664 fun n666 r665 => (uI .i64 r665 fun n668 r667 => (unNil r667 (G 23 [(.agg [(.sl 1 al1), (.sl 1 al2), (.sl 1 al3), (.sl 1 al4)]), (.int .i64 (IntKind.i64.wrap (ai5 - 1))), (.sl 1 bl6), (.int .i64 n668)] fun o669 => (uA o669 fun l671 r670 => (uI .i64 l671 fun n673 r672 => (uI .i64 r672 fun n675 r674 => (uS r674 fun s677 r676 => (uL 5 r676 fun l679 r678 => (uI .i64 r678 fun n681 r680 => (unNil r680 (uI .i64 r670 fun n683 r682 => (unNil r682 (K [(.agg [(.int .i64 (IntKind.i64.wrap (7 + n666))), (.int .i64 0), (.str ⟨#[]⟩), (.sl 5 [(.agg [(.int .i64 n653), (.int .i64 n655), (.str s657), (.sl 5 l659), (.int .i64 n661)]), (.agg [(.int .i64 n673), (.int .i64 n675), (.str s677), (.sl 5 l679), (.int .i64 n681)])]), (.int .i64 0)]), (.int .i64 n683)])))))))))))))))))))))))))))) else (bif (decide (n10 < 6)) then (K [(.agg [(.int .i64 3), (.int .i64 0), (.str ⟨#[]⟩), (.sl 5 []), (.int .i64 0)]), (.int .i64 n12)]) else (bif (n10 == 6) then (G 36 [(.int .i64 2), (.sl 1 bl6), (.int .i64 n12)] fun o684 => (uI .i64 o684 fun n686 r685 => (uI .i64 r685 fun n688 r687 => (unNil r687 (G 23 [(.agg [(.sl 1 al1), (.sl 1 al2), (.sl 1 al3), (.sl 1 al4)]), (.int .i64 (IntKind.i64.wrap (ai5 - 1))), (.sl 1 bl6), (.int .i64 n688)] fun o689 => (uA o689 fun l691 r690 => (uI .i64 l691 fun n693 r692 => (uI .i64 r692 fun n695 r694 => (uS r694 fun s697 r696 => (uL 5 r696 fun l699 r698 => (uI .i64 r698 fun n701 r700 => (unNil r700 (uI .i64 r690 fun n703 r702 => (unNil r702 (K [(.agg [(.int .i64 (IntKind.i64.wrap (5 + n686))), (.int .i64 0), (.str ⟨#[]⟩), (.sl 5 [(.agg [(.int .i64 n693), (.int .i64 n695), (.str s697), (.sl 5 l699), (.int .i64 n701)])]), (.int .i64 0)]), (.int .i64 n703)]))))))))))))))) else (G 23 [(.agg [(.sl 1 al1), (.sl 1 al2), (.sl 1 al3), (.sl 1 al4)]), (.int .i64 (IntKind.i64.wrap (ai5 - 1))), (.sl 1 bl6), (.int .i64 n12)] fun o704 => (uA o704 fun l706 r705 => (uI .i64 l706 fun n708 r707 => (uI .i64 r707 fun n710 r709 => (uS r709 fun s712 r711 => (uL 5 r711 fun l714 r713 => (uI .i64 r713 fun n716 r715 => (unNil r715 (uI .i64 r705 fun n718 r717 => (unNil r717 (G 36 [(.int .i64 13), (.sl 1 bl6), (.int .i64 n718)] fun o719 => (uI .i64 o719 fun n721 r720 => (uI .i64 r720 fun n723 r722 => (unNil r722 (G 23 [(.agg [(.sl 1 al1), (.sl 1 al2), (.sl 1 al3), (.sl 1 al4)]), (.int .i64 (IntKind.i64.wrap (ai5 - 1))), (.sl 1 bl6), (.int .i64 n723)] fun o724 => (uA o724 fun l726 r725 => (uI .i64 l726 fun n728 r727 => (uI .i64 r727 fun n730 r729 => (uS r729 fun s732 r731 => (uL 5 r731 fun l734 r733 => (uI .i64 r733 fun n736 r735 => (unNil r735 (uI .i64 r725 fun n738 r737 => (unNil r737 (K [(.agg [(.int .i64 (IntKind.i64.wrap (7 + n721))), (.int .i64 0), (.str ⟨#[]⟩), (.sl 5 [(.agg [(.int .i64 n708), (.int .i64 n710), (.str s712), (.sl 5 l714), (.int .i64 n716)]), (.agg [(.int .i64 n728), (.int .i64 n730), (.str s732), (.sl 5 l734), (.int .i64 n736)])]), (.int .i64 0)]), (.int .i64 n738)])))))))))))))))))))))))))))))))))))
theorem f23_is {R : Type} (G : ORC R) (k : Nat) (K : List V → Option R) (al1 al2 : List V) (al3 al4 : List V) (ai5 : Int) (bl6 : List V) (bi7 : Int) :
    callF (TAB.env 23) G (L23 G k) Try.f23 S23 [(.agg [(.sl 1 al1), (.sl 1 al2), (.sl 1 al3), (.sl 1 al4)]), (.int .i64 ai5), (.sl 1 bl6), (.int .i64 bi7)] K = f23 G k al1 al2 al3 al4 ai5 bl6 bi7 K := by kernel_rfl
theorem lo23 : loopsOf (bodyOf Try.f23) = [] := by kernel_rfl
theorem la23 {R : Type} (G : ORC R) (k : Nat) : LoopsAre (TAB.env 23) G (L23 G k) (bodyOf Try.f23) :=
  loopsAre_of (by rw [lo23]; intro p hp; cases hp)
def g23 {R : Type} (G : ORC R) (k : Nat) (args : List V) (K : List V → Option R) : Option R := match args with
  | [(.agg [(.sl 1 al1), (.sl 1 al2), (.sl 1 al3), (.sl 1 al4)]), (.int .i64 ai5), (.sl 1 bl6), (.int .i64 bi7)] => f23 G k al1 al2 al3 al4 ai5 bl6 bi7 K
  | _ => none
theorem s23 {R : Type} {G : ORC R} {k : Nat} (hG : Sound Try.prog TAB G) (args : List V) (K : List V → Option R) (r : R) (h : g23 G k args K = some r) : ∃ o, CallOK Try.prog TAB.env 23 args o ∧ K o = some r := by
  unfold g23 at h
  split at h
  · rw [← f23_is] at h
    exact callF_sound (f := 23) TAB_chk MO hG Try.func23 (sg := S23) (by kernel_rfl) (by kernel_rfl) (la23 G k) h
  · cases h
end Go.Proofs.Ytdfjodnkplbffaa.Vm
open Go Go.VM
set_option linter.unusedVariables false
set_option maxRecDepth 100000
set_option maxHeartbeats 4000000
namespace Go.Proofs.Ytdfjodnkplbffaa.Vm
section
variable {R : Type} {G : ORC R} {k : Nat} {K : List V → Option R}
def PlaceS (G : ORC R) : Prop := ∀ (v n : Int) (K : List V → Option R), 0 < n → n ≤ 1099511627776 → W (fun o => ∃ x, o = [.int .i64 x] ∧ 0 ≤ x ∧ x < n) K (G 29 [.int .i64 v, .int .i64 n] K)
theorem place_ok : PlaceS (fun _ args (K : List V → Option R) => g29 G k args K) := by
  intro v n K h1 h2
  show W _ K (f29 G k v n K)
  unfold f29
  have ht := tmod_lt (v := v) h1
  refine W_not ?_
  refine W_beqI (fun h => by omega) (fun _ => ?_)
  refine W_dec (fun h => ?_) (fun h => ?_)
  · rw [wrap_id (by omega)]; exact W_ret ⟨_, rfl, by omega, by omega⟩
  · exact W_ret ⟨_, rfl, by omega, by omega⟩
def NextS (G : ORC R) : Prop := ∀ (n : Int) (L : List V) (i : Int) (K : List V → Option R), 0 < n → n ≤ 1099511627776 → RowS L i → W (fun o => ∃ x j, o = [.int .i64 x, .int .i64 j] ∧ 0 ≤ x ∧ x < n ∧ RowS L j) K (G 36 [.int .i64 n, .sl 1 L, .int .i64 i] K)
theorem next_ok (hP : PlaceS G) : NextS (fun _ args (K : List V → Option R) => g36 G k args K) := by
  intro n L i K h1 h2 hr
  obtain ⟨r1, r2, r3, r4⟩ := hr
  show W _ K (f36 G k n L i K)
  unfold f36
  have e1 : IntKind.i64.wrap (i + 1) = i + 1 := wrap_id (by omega)
  have e2 : IntKind.i64.wrap (i + 1 - 1) = i := by rw [wrap_id (by omega)]; omega
  rw [e1, e2]
  refine W_dec (fun h => ?_) (fun h => ?_)
  · exact W_ret ⟨_, _, rfl, by omega, by omega, r1, r2, r3, r4⟩
  · refine W_and (W_yes (by omega) (W_yes (by omega) ?_))
    refine W_nth (by omega) (fun v _ hv => ?_)
    obtain ⟨m, rfl, hm⟩ := r1 v hv
    refine W_aI ?_
    refine W_call (hP m n _ h1 h2) ?_
    rintro o ⟨x, rfl, x1, x2⟩
    refine W_uI (W_unNil ?_)
    exact W_ret ⟨_, _, rfl, x1, x2, r1, r2, by omega, by omega⟩
def EventS (G : ORC R) : Prop := ∀ (n : Int) (K : List V → Option R), W (fun o => ∃ s, o = [.str s] ∧ StrS s) K (G 38 [.int .i64 n] K)
theorem event_ok (hP : PlaceS G) : EventS (fun _ args (K : List V → Option R) => g38 G k args K) := by
  intro n K
  show W _ K (f38 G k n K)
  unfold f38
  refine W_call (hP n 8 _ (by omega) (by omega)) ?_
  rintro o ⟨x, rfl, x1, x2⟩
  refine W_uI (W_unNil ?_)
  refine W_and (W_yes (by omega) (W_yes (by omega) ?_))
  refine W_nth (by simp; omega) (fun v _ hv => ?_)
  simp only [List.mem_cons, List.not_mem_nil, or_false] at hv
  rcases hv with rfl | rfl | rfl | rfl | rfl | rfl | rfl | rfl <;> exact W_ret ⟨_, rfl, by unfold StrS; decide⟩
def PickS (G : ORC R) : Prop := ∀ (l : List V) (s : ByteArray) (L : List V) (i : Int) (m : Nat) (K : List V → Option R), StrsS m l → m ≤ 100000 → StrS s → RowS L i → W (fun o => ∃ t j, o = [.str t, .int .i64 j] ∧ StrS t ∧ (l = [] ∨ .str t ∈ l) ∧ RowS L j) K (G 37 [.sl 1 l, .str s, .sl 1 L, .int .i64 i] K)
theorem pick_ok (hN : NextS G) : PickS (fun _ args (K : List V → Option R) => g37 G k args K) := by
  intro l s L i m K hl hm hs hr
  show W _ K (f37 G k l s L i K)
  unfold f37
  have h1 := hl.1
  refine W_beqI (fun h => ?_) (fun h => ?_)
  · exact W_ret ⟨_, _, rfl, hs, .inl (List.eq_nil_of_length_eq_zero (by omega)), hr⟩
  · refine W_call (hN _ L i _ (by omega) (by omega) hr) ?_
    rintro o ⟨x, j, rfl, x1, x2, hr2⟩
    refine W_uI (W_uI (W_unNil ?_))
    refine W_and (W_yes (by omega) (W_yes (by omega) ?_))
    refine W_nth (by omega) (fun v _ hv => ?_)
    obtain ⟨t, rfl, ht⟩ := hl.2 v hv
    exact W_asStr (W_ret ⟨_, _, rfl, ht, .inr hv, hr2⟩)
end
end Go.Proofs.Ytdfjodnkplbffaa.Vm
open Go Go.VM
set_option linter.unusedVariables false
set_option maxRecDepth 100000
set_option maxHeartbeats 4000000
namespace Go.Proofs.Ytdfjodnkplbffaa.Vm
/-! ### cotillion/cotillionref13.Find: function 62 -/
def P62_0h : Pat := { tmps := unds [.var (.sl 7) .ro, .var .str .pr, .undef, .undef, .undef, .var (.int .i64) .pr] 14 [], boxes := nons [] 20 [] }
def P62_0x : Pat := { tmps := unds [] 20 [], boxes := nons [] 20 [] }
def P62_0r : Pat := { tmps := unds [.undef, .undef, .undef, .undef, .var (.int .i64) .pr] 15 [], boxes := nons [] 20 [] }
def b62_0 {R : Type} (G : ORC R) (k : Nat) (X : List V → ByteArray → Int → Option R) (Ko : Unit → Option R) (Kr : Int → Option R) (xl3 : List V) (xs4 : ByteArray) (xi5 : Int) : Option R :=
  (bif (decide (xi5 < ((List.length xl3 : Nat) : Int))) then (bif ((decide (0 ≤ xi5)) && (decide (xi5 < ((List.length xl3 : Nat) : Int)))) then (nthK xl3 (Int.toNat xi5) fun e6 => (ca7 e6 fun c7 c8 c9 c10 c11 c12 c13 => (V.asStr c13 fun s14 => (bif (ByteArray.toList s14 == ByteArray.toList xs4) then (Kr xi5) else (X xl3 xs4 (IntKind.i64.wrap (xi5 + 1))))))) else none) else (Ko ()))
def l62_0g {R : Type} (G : ORC R) (k : Nat) (Ko : Unit → Option R) (Kr : Int → Option R) : Nat → List V → ByteArray → Int → Option R
  | 0 => fun _ _ _ => none
  | j + 1 => b62_0 G k (l62_0g G k Ko Kr j) Ko Kr
def l62_0 {R : Type} (G : ORC R) (k : Nat) (xl3 : List V) (xs4 : ByteArray) (xi5 : Int) (Ko : Unit → Option R) (Kr : Int → Option R) : Option R := l62_0g G k Ko Kr k xl3 xs4 xi5
def rd62_0 {R : Type} (G : ORC R) (k : Nat) (K : Ex → St → Option R) (j : Nat) (vs : List V) : Option R := match vs with
  | [(.sl 7 xl3), (.str xs4), (.int .i64 xi5)] => l62_0g G k (fun _ => K .normal (P62_0x.inst [])) (fun yi16 => K .ret (P62_0r.inst [(.int .i64 yi16)])) j xl3 xs4 xi5
  | _ => none
def L62 {R : Type} (G : ORC R) (k : Nat) : Nat → St → (Ex → St → Option R) → Option R
  | 0, S, K => P62_0h.mat S fun vs => rd62_0 G k K k vs
  | _, _, _ => none
def f62 {R : Type} (G : ORC R) (k : Nat) (al1 : List V) (as2 : ByteArray) (K : List V → Option R) : Option R :=
  (l62_0 G k al1 as2 1 (fun (_ : Unit) => (K [(.int .i64 (-1))])) (fun yi15 => (K [(.int .i64 yi15)])))
noncomputable def D62_0 : LoopD := { id := 0, body := loopAt 0 (bodyOf Try.f62), head := P62_0h, out := P62_0x, ret := P62_0r }
theorem l62_0_is {R : Type} (G : ORC R) (k : Nat) (X : List V → Option R) (K : Ex → St → Option R) (xl3 : List V) (xs4 : ByteArray) (xi5 : Int) :
    roundOf (TAB.env 62) G (L62 G k) D62_0 X K [(.sl 7 xl3), (.str xs4), (.int .i64 xi5)] = b62_0 G k (fun xl3 xs4 xi5 => X [(.sl 7 xl3), (.str xs4), (.int .i64 xi5)]) (fun _ => K .normal (P62_0x.inst [])) (fun yi16 => K .ret (P62_0r.inst [(.int .i64 yi16)])) xl3 xs4 xi5 := by kernel_rfl
theorem f62_is {R : Type} (G : ORC R) (k : Nat) (K : List V → Option R) (al1 : List V) (as2 : ByteArray) :
    callF (TAB.env 62) G (L62 G k) Try.f62 S62 [(.sl 7 al1), (.str as2)] K = f62 G k al1 as2 K := by kernel_rfl
theorem li62_0 {R : Type} (G : ORC R) (k : Nat) : LoopIs (TAB.env 62) G (L62 G k) 0 (loopAt 0 (bodyOf Try.f62)) :=
  ⟨D62_0, fun j vs K => rd62_0 G k K j vs, k, rfl, rfl, by kernel_rfl, by kernel_rfl, by kernel_rfl, (fun vs K => by unfold rd62_0; dsimp only; split <;> rfl),
    (fun j vs K r h => by
      unfold rd62_0 at h
      dsimp only at h
      split at h
      · rw [l62_0_is]; exact h
      · cases h), (fun S K r h => h)⟩
theorem lo62 : loopsOf (bodyOf Try.f62) = [(0, loopAt 0 (bodyOf Try.f62))] := by kernel_rfl
theorem la62 {R : Type} (G : ORC R) (k : Nat) : LoopsAre (TAB.env 62) G (L62 G k) (bodyOf Try.f62) :=
  loopsAre_of (by rw [lo62]; intro p hp; simp only [List.mem_cons, List.not_mem_nil, or_false] at hp; subst hp; exact li62_0 G k)
def g62 {R : Type} (G : ORC R) (k : Nat) (args : List V) (K : List V → Option R) : Option R := match args with
  | [(.sl 7 al1), (.str as2)] => f62 G k al1 as2 K
  | _ => none
theorem s62 {R : Type} {G : ORC R} {k : Nat} (hG : Sound Try.prog TAB G) (args : List V) (K : List V → Option R) (r : R) (h : g62 G k args K = some r) : ∃ o, CallOK Try.prog TAB.env 62 args o ∧ K o = some r := by
  unfold g62 at h
  split at h
  · rw [← f62_is] at h
    exact callF_sound (f := 62) TAB_chk MO hG Try.func62 (sg := S62) (by kernel_rfl) (by kernel_rfl) (la62 G k) h
  · cases h
end Go.Proofs.Ytdfjodnkplbffaa.Vm
open Go Go.VM
set_option linter.unusedVariables false
set_option linter.unusedSimpArgs false
set_option maxRecDepth 100000
set_option maxHeartbeats 8000000
namespace Go.Proofs.Ytdfjodnkplbffaa.Vm
section
variable {R : Type} {G : ORC R} {k : Nat} {K : List V → Option R}
/-- Only the root has no name. -/
def NamesNE (l : List Nd) : Prop := (∀ n, l[0]? = some n → n.name.toList = []) ∧ ∀ (j : Nat) n, l[j]? = some n → 0 < j → n.name.toList ≠ []
def FindOK (G : ORC R) : Prop := ∀ (l : List Nd) (s : ByteArray) (K : List V → Option R), l.length ≤ 1000 → W (fun o => o = [.int .i64 (findN l s)]) K (G 62 [.sl 7 (l.map Nd.v), .str s] K)
theorem find_loop {Q : List V → Prop} {K : List V → Option R} {Ko : Unit → Option R} {Kr : Int → Option R} {l : List Nd} {s : ByteArray} (hl : l.length ≤ 1000)
    (hKo : findN l s = -1 → W Q K (Ko ())) (hKr : ∀ i, i = findN l s → W Q K (Kr i)) :
    ∀ (j i : Nat), l.length - i < j → findGo s (l.drop i) i = findN l s → W Q K (l62_0g G k Ko Kr j (l.map Nd.v) s i)
  | 0, i, h1, h2 => by omega
  | j + 1, i, h1, h2 => by
    show W Q K (b62_0 G k (l62_0g G k Ko Kr j) Ko Kr (l.map Nd.v) s i)
    unfold b62_0
    simp only [List.length_map]
    refine W_dec (fun h => ?_) (fun h => ?_)
    · refine W_and (W_yes (by omega) (W_yes h ?_))
      refine W_nthN (by omega) (fun n hn => W_nd ?_)
      rw [Int.toNat_natCast] at hn
      have hd : l.drop i = n :: l.drop (i + 1) := by
        have hi : i < l.length := by omega
        rw [List.drop_eq_getElem_cons hi]
        rw [List.getElem?_eq_getElem hi] at hn; cases hn; rfl
      refine W_ce7 (W_asStr ?_)
      rw [hd] at h2
      unfold findGo at h2
      refine W_bool (fun e => ?_) (fun e => ?_)
      · rw [if_pos (beq_iff_eq.1 e)] at h2
        exact hKr _ h2
      · rw [if_neg (fun e' => by rw [e', beq_self_eq_true] at e; cases e)] at h2
        rw [wrap_id (n := (i : Int) + 1) (by omega)]
        exact find_loop hl hKo hKr j (i + 1) (by omega) h2
    · refine hKo ?_
      rw [← h2, List.drop_eq_nil_of_le (by omega)]; rfl
theorem find_ok (hk : 10000 ≤ k) : FindOK (fun _ args (K : List V → Option R) => g62 G k args K) := by
  intro l s K hl
  show W _ K (f62 G k (l.map Nd.v) s K)
  unfold f62 l62_0
  exact find_loop (Q := fun o => o = [.int .i64 (findN l s)]) (K := K) (Ko := fun _ => K [.int .i64 (-1)]) (Kr := fun i => K [.int .i64 i]) hl (fun e => W_ret (by rw [e])) (fun i e => W_ret (by rw [e])) k 1 (by omega) rfl
end
end Go.Proofs.Ytdfjodnkplbffaa.Vm
open Go Go.VM
set_option linter.unusedVariables false
set_option maxRecDepth 100000
set_option maxHeartbeats 4000000
namespace Go.Proofs.Ytdfjodnkplbffaa.Vm
/-! ### cotillion/cotillionref16.place: function 61 -/
def P61_0h : Pat := { tmps := unds [.var (.sl 1) .ro, .var .str .pr, .undef, .undef, .undef, .var (.int .i64) .pr] 13 [], boxes := nons [] 19 [] }
def P61_0x : Pat := { tmps := unds [] 19 [], boxes := nons [] 19 [] }
def P61_0r : Pat := { tmps := unds [.undef, .undef, .undef, .undef, .var (.int .i64) .pr] 14 [], boxes := nons [] 19 [] }
def b61_0 {R : Type} (G : ORC R) (k : Nat) (X : List V → ByteArray → Int → Option R) (Ko : Unit → Option R) (Kr : Int → Option R) (xl3 : List V) (xs4 : ByteArray) (xi5 : Int) : Option R :=
  (bif (decide (xi5 < ((List.length xl3 : Nat) : Int))) then (bif ((decide (0 ≤ xi5)) && (decide (xi5 < ((List.length xl3 : Nat) : Int)))) then (nthK xl3 (Int.toNat xi5) fun e6 => (V.asStr e6 fun s7 => (bif (ByteArray.toList s7 == ByteArray.toList xs4) then (Kr xi5) else (X xl3 xs4 (IntKind.i64.wrap (xi5 + 1)))))) else none) else (Ko ()))
def l61_0g {R : Type} (G : ORC R) (k : Nat) (Ko : Unit → Option R) (Kr : Int → Option R) : Nat → List V → ByteArray → Int → Option R
  | 0 => fun _ _ _ => none
  | j + 1 => b61_0 G k (l61_0g G k Ko Kr j) Ko Kr
def l61_0 {R : Type} (G : ORC R) (k : Nat) (xl3 : List V) (xs4 : ByteArray) (xi5 : Int) (Ko : Unit → Option R) (Kr : Int → Option R) : Option R := l61_0g G k Ko Kr k xl3 xs4 xi5
def rd61_0 {R : Type} (G : ORC R) (k : Nat) (K : Ex → St → Option R) (j : Nat) (vs : List V) : Option R := match vs with
  | [(.sl 1 xl3), (.str xs4), (.int .i64 xi5)] => l61_0g G k (fun _ => K .normal (P61_0x.inst [])) (fun yi9 => K .ret (P61_0r.inst [(.int .i64 yi9)])) j xl3 xs4 xi5
  | _ => none
def L61 {R : Type} (G : ORC R) (k : Nat) : Nat → St → (Ex → St → Option R) → Option R
  | 0, S, K => P61_0h.mat S fun vs => rd61_0 G k K k vs
  | _, _, _ => none
def f61 {R : Type} (G : ORC R) (k : Nat) (al1 : List V) (as2 : ByteArray) (K : List V → Option R) : Option R :=
  (l61_0 G k al1 as2 0 (fun (_ : Unit) => (K [(.int .i64 (-1))])) (fun yi8 => (K [(.int .i64 yi8)])))
noncomputable def D61_0 : LoopD := { id := 0, body := loopAt 0 (bodyOf Try.f61), head := P61_0h, out := P61_0x, ret := P61_0r }
theorem l61_0_is {R : Type} (G : ORC R) (k : Nat) (X : List V → Option R) (K : Ex → St → Option R) (xl3 : List V) (xs4 : ByteArray) (xi5 : Int) :
    roundOf (TAB.env 61) G (L61 G k) D61_0 X K [(.sl 1 xl3), (.str xs4), (.int .i64 xi5)] = b61_0 G k (fun xl3 xs4 xi5 => X [(.sl 1 xl3), (.str xs4), (.int .i64 xi5)]) (fun _ => K .normal (P61_0x.inst [])) (fun yi9 => K .ret (P61_0r.inst [(.int .i64 yi9)])) xl3 xs4 xi5 := by kernel_rfl
theorem f61_is {R : Type} (G : ORC R) (k : Nat) (K : List V → Option R) (al1 : List V) (as2 : ByteArray) :
    callF (TAB.env 61) G (L61 G k) Try.f61 S61 [(.sl 1 al1), (.str as2)] K = f61 G k al1 as2 K := by kernel_rfl
theorem li61_0 {R : Type} (G : ORC R) (k : Nat) : LoopIs (TAB.env 61) G (L61 G k) 0 (loopAt 0 (bodyOf Try.f61)) :=
  ⟨D61_0, fun j vs K => rd61_0 G k K j vs, k, rfl, rfl, by kernel_rfl, by kernel_rfl, by kernel_rfl, (fun vs K => by unfold rd61_0; dsimp only; split <;> rfl),
    (fun j vs K r h => by
      unfold rd61_0 at h
      dsimp only at h
      split at h
      · rw [l61_0_is]; exact h
      · cases h), (fun S K r h => h)⟩
theorem lo61 : loopsOf (bodyOf Try.f61) = [(0, loopAt 0 (bodyOf Try.f61))] := by kernel_rfl
theorem la61 {R : Type} (G : ORC R) (k : Nat) : LoopsAre (TAB.env 61) G (L61 G k) (bodyOf Try.f61) :=
  loopsAre_of (by rw [lo61]; intro p hp; simp only [List.mem_cons, List.not_mem_nil, or_false] at hp; subst hp; exact li61_0 G k)
def g61 {R : Type} (G : ORC R) (k : Nat) (args : List V) (K : List V → Option R) : Option R := match args with
  | [(.sl 1 al1), (.str as2)] => f61 G k al1 as2 K
  | _ => none
theorem s61 {R : Type} {G : ORC R} {k : Nat} (hG : Sound Try.prog TAB G) (args : List V) (K : List V → Option R) (r : R) (h : g61 G k args K = some r) : ∃ o, CallOK Try.prog TAB.env 61 args o ∧ K o = some r := by
  unfold g61 at h
  split at h
  · rw [← f61_is] at h
    exact callF_sound (f := 61) TAB_chk MO hG Try.func61 (sg := S61) (by kernel_rfl) (by kernel_rfl) (la61 G k) h
  · cases h
end Go.Proofs.Ytdfjodnkplbffaa.Vm
open Go Go.VM
set_option linter.unusedVariables false
set_option maxRecDepth 100000
set_option maxHeartbeats 4000000
namespace Go.Proofs.Ytdfjodnkplbffaa.Vm
/-! ### cotillion/cotillionref16.op: function 63 -/
def L63 {R : Type} (_ : ORC R) (_ : Nat) : Nat → St → (Ex → St → Option R) → Option R := fun _ _ _ => none
def f63 {R : Type} (G : ORC R) (k : Nat) (ai1 : Int) (K : List V → Option R) : Option R :=
  (bif (ai1 == 5) then (K [(.int .i64 5)]) else (bif (ai1 == 6) then (K [(.int .i64 6)]) else (K [(.int .i64 (IntKind.i64.wrap ((IntKind.i64.wrap (7 + ai1)) - 7)))])))
theorem f63_is {R : Type} (G : ORC R) (k : Nat) (K : List V → Option R) (ai1 : Int) :
    callF (TAB.env 63) G (L63 G k) Try.f63 S63 [(.int .i64 ai1)] K = f63 G k ai1 K := by kernel_rfl
theorem lo63 : loopsOf (bodyOf Try.f63) = [] := by kernel_rfl
theorem la63 {R : Type} (G : ORC R) (k : Nat) : LoopsAre (TAB.env 63) G (L63 G k) (bodyOf Try.f63) :=
  loopsAre_of (by rw [lo63]; intro p hp; cases hp)
def g63 {R : Type} (G : ORC R) (k : Nat) (args : List V) (K : List V → Option R) : Option R := match args with
  | [(.int .i64 ai1)] => f63 G k ai1 K
  | _ => none
theorem s63 {R : Type} {G : ORC R} {k : Nat} (hG : Sound Try.prog TAB G) (args : List V) (K : List V → Option R) (r : R) (h : g63 G k args K = some r) : ∃ o, CallOK Try.prog TAB.env 63 args o ∧ K o = some r := by
  unfold g63 at h
  split at h
  · rw [← f63_is] at h
    exact callF_sound (f := 63) TAB_chk MO hG Try.func63 (sg := S63) (by kernel_rfl) (by kernel_rfl) (la63 G k) h
  · cases h
end Go.Proofs.Ytdfjodnkplbffaa.Vm
open Go Go.VM
set_option linter.unusedVariables false
set_option maxRecDepth 100000
set_option maxHeartbeats 4000000
namespace Go.Proofs.Ytdfjodnkplbffaa.Vm
/-! ### cotillion/cotillionref16.expr: function 42 -/
def L42 {R : Type} (_ : ORC R) (_ : Nat) : Nat → St → (Ex → St → Option R) → Option R := fun _ _ _ => none
def f42 {R : Type} (G : ORC R) (k : Nat) (al1 : List V) (ai2 ai3 : Int) (as4 : ByteArray) (al5 : List V) (ai6 : Int) (al7 al8 : List V) (al9 al10 : List V) (K : List V → Option R) : Option R :=
  (bif (ai2 == 1) then (bif (decide (List.length al1 + 1 ≤ 1073741824)) then (K [(.sl 4 (al1 ++ [(.agg [(.int .i64 1), (.int .i64 0), (.int .i64 ai3), (.str ⟨#[]⟩)])]))]) else none) else (bif (ai2 == 2) then (G 61 [(.sl 1 al7), (.str as4)] fun o11 => (uI .i64 o11 fun n13 r12 => (unNil r12 (bif (decide (List.length al1 + 1 ≤ 1073741824)) then (K [(.sl 4 (al1 ++ [(.agg [(.int .i64 2), (.int .i64 n13), (.int .i64 0), (.str ⟨#[]⟩)])]))]) else none)))) else (bif (ai2 == 3) then (bif (decide (List.length al1 + 1 ≤ 1073741824)) then (K [(.sl 4 (al1 ++ [(.agg [(.int .i64 3), (.int .i64 0), (.int .i64 0), (.str ⟨#[]⟩)])]))]) else none) else (bif (ai2 == 4) then (G 62 [(.sl 7 al10), (.str as4)] fun o14 => (uI .i64 o14 fun n16 r15 => (unNil r15 (bif (decide (List.length al1 + 1 ≤ 1073741824)) then (K [(.sl 4 (al1 ++ [(.agg [(.int .i64 4), (.int .i64 n16), (.int .i64 0), (.str ⟨#[]⟩)])]))]) else none)))) else (bif (ai2 == 5) then (bif (ai2 == 5) then (bif (decide (0 < ((List.length al5 : Nat) : Int))) then (nthK al5 0 fun e17 => (V.asAgg e17 fun l18 => (G 42 [(.sl 4 al1), (.agg l18), (.agg [(.sl 1 al7), (.sl 1 al8), (.sl 1 al9), (.sl 7 al10)])] fun o19 => (uL 4 o19 fun l21 r20 => (unNil r20 (G 63 [(.int .i64 ai2)] fun o22 => (uI .i64 o22 fun n24 r23 => (unNil r23 (bif (decide (List.length l21 + 1 ≤ 1073741824)) then (K [(.sl 4 (l21 ++ [(.agg [(.int .i64 n24), (.int .i64 0), (.int .i64 0), (.str ⟨#[]⟩)])]))]) else none))))))))) else none) else (bif (ai2 == 18) then (G 64 [(.sl 4 al1), (.agg [(.int .i64 ai2), (.int .i64 ai3), (.str as4), (.sl 5 al5), (.int .i64 ai6)]), (.agg [(.sl 1 al7), (.sl 1 al8), (.sl 1 al9), (.sl 7 al10)])] fun o25 => (uL 4 o25 fun l27 r26 => (unNil r26 (K [(.sl 4 l27)])))) else (bif (ai2 == 19) then (G 65 [(.sl 4 al1), (.agg [(.int .i64 ai2), (.int .i64 ai3), (.str as4), (.sl 5 al5), (.int .i64 ai6)]), (.agg [(.sl 1 al7), (.sl 1 al8), (.sl 1 al9), (.sl 7 al10)])] fun o28 => (uL 4 o28 fun l30 r29 => (unNil r29 (K [(.sl 4 l30)])))) else (bif (decide (0 < ((List.length al5 : Nat) : Int))) then (nthK al5 0 fun e31 => (V.asAgg e31 fun l32 => (G 42 [(.sl 4 al1), (.agg l32), (.agg [(.sl 1 al7), (.sl 1 al8), (.sl 1 al9), (.sl 7 al10)])] fun o33 => (uL 4 o33 fun l35 r34 => (unNil r34 (bif (decide (1 < ((List.length al5 : Nat) : Int))) then (nthK al5 1 fun e36 => (V.asAgg e36 fun l37 => (G 42 [(.sl 4 l35), (.agg l37), (.agg [(.sl 1 al7), (.sl 1 al8), (.sl 1 al9), (.sl 7 al10)])] fun o38 => (uL 4 o38 fun l40 r39 => (unNil r39 (G 63 [(.int .i64 ai2)] fun o41 => (uI .i64 o41 fun n43 r42 => (unNil r42 (bif (decide (List.length l40 + 1 ≤ 1073741824)) then (K [(.sl 4 (l40 ++ [(.agg [(.int .i64 n43), (.int .i64 0), (.int .i64 0), (.str ⟨#[]⟩)])]))]) else none))))))))) else none)))))) else none)))) else (bif (ai2 == 6) then (bif (decide (0 < ((List.length al5 : Nat) : Int))) then (nthK al5 0 fun e44 => (V.asAgg e44 fun l45 => (G 42 [(.sl 4 al1), (.agg l45), (.agg [(.sl 1 al7), (.sl 1 al8), (.sl 1 al9), (.sl 7 al10)])] fun o46 => (uL 4 o46 fun l48 r47 => (unNil r47 (G 63 [(.int .i64 ai2)] fun o49 => (uI .i64 o49 fun n51 r50 => (unNil r50 (bif (decide (List.length l48 + 1 ≤ 1073741824)) then (K [(.sl 4 (l48 ++ [(.agg [(.int .i64 n51), (.int .i64 0), (.int .i64 0), (.str ⟨#[]⟩)])]))]) else none))))))))) else none) else (bif (ai2 == 18) then (G 64 [(.sl 4 al1), (.agg [(.int .i64 ai2), (.int .i64 ai3), (.str as4), (.sl 5 al5), (.int .i64 ai6)]), (.agg [(.sl 1 al7), (.sl 1 al8), (.sl 1 al9), (.sl 7 al10)])] fun o52 => (uL 4 o52 fun l54 r53 => (unNil r53 (K [(.sl 4 l54)])))) else (bif (ai2 == 19) then (G 65 [(.sl 4 al1), (.agg [(.int .i64 ai2), (.int .i64 ai3), (.str as4), (.sl 5 al5), (.int .i64 ai6)]), (.agg [(.sl 1 al7), (.sl 1 al8), (.sl 1 al9), (.sl 7 al10)])] fun o55 => (uL 4 o55 fun l57 r56 => (unNil r56 (K [(.sl 4 l57)])))) else (bif (decide (0 < ((List.length al5 : Nat) : Int))) then (nthK al5 0 fun e58 => (V.asAgg e58 fun l59 => (G 42 [(.sl 4 al1), (.agg l59), (.agg [(.sl 1 al7), (.sl 1 al8), (.sl 1 al9), (.sl 7 al10)])] fun o60 => (uL 4 o60 fun l62 r61 => (unNil r61 (bif (decide (1 < ((List.length al5 : Nat) : Int))) then (nthK al5 1 fun e63 => (V.asAgg e63 fun l64 => (G 42 [(.sl 4 l62), (.agg l64), (.agg [(.sl 1 al7), (.sl 1 al8), (.sl 1 al9), (.sl 7 al10)])] fun o65 => (uL 4 o65 fun l67 r66 => (unNil r66 (G 63 [(.int .i64 ai2)] fun o68 => (uI .i64 o68 fun n70 r69 => (unNil r69 (bif (decide (List.length l67 + 1 ≤ 1073741824)) then (K [(.sl 4 (l67 ++ [(.agg [(.int .i64 n70), (.int .i64 0), (.int .i64 0), (.str ⟨#[]⟩)])]))]) else none))))))))) else none)))))) else none)))))))))
theorem f42_is {R : Type} (G : ORC R) (k : Nat) (K : List V → Option R) (al1 : List V) (ai2 ai3 : Int) (as4 : ByteArray) (al5 : List V) (ai6 : Int) (al7 al8 : List V) (al9 al10 : List V) :
    callF (TAB.env 42) G (L42 G k) Try.f42 S42 [(.sl 4 al1), (.agg [(.int .i64 ai2), (.int .i64 ai3), (.str as4), (.sl 5 al5), (.int .i64 ai6)]), (.agg [(.sl 1 al7), (.sl 1 al8), (.sl 1 al9), (.sl 7 al10)])] K = f42 G k al1 ai2 ai3 as4 al5 ai6 al7 al8 al9 al10 K := by kernel_rfl
theorem lo42 : loopsOf (bodyOf Try.f42) = [] := by kernel_rfl
theorem la42 {R : Type} (G : ORC R) (k : Nat) : LoopsAre (TAB.env 42) G (L42 G k) (bodyOf Try.f42) :=
  loopsAre_of (by rw [lo42]; intro p hp; cases hp)
def g42 {R : Type} (G : ORC R) (k : Nat) (args : List V) (K : List V → Option R) : Option R := match args with
  | [(.sl 4 al1), (.agg [(.int .i64 ai2), (.int .i64 ai3), (.str as4), (.sl 5 al5), (.int .i64 ai6)]), (.agg [(.sl 1 al7), (.sl 1 al8), (.sl 1 al9), (.sl 7 al10)])] => f42 G k al1 ai2 ai3 as4 al5 ai6 al7 al8 al9 al10 K
  | _ => none
theorem s42 {R : Type} {G : ORC R} {k : Nat} (hG : Sound Try.prog TAB G) (args : List V) (K : List V → Option R) (r : R) (h : g42 G k args K = some r) : ∃ o, CallOK Try.prog TAB.env 42 args o ∧ K o = some r := by
  unfold g42 at h
  split at h
  · rw [← f42_is] at h
    exact callF_sound (f := 42) TAB_chk MO hG Try.func42 (sg := S42) (by kernel_rfl) (by kernel_rfl) (la42 G k) h
  · cases h
end Go.Proofs.Ytdfjodnkplbffaa.Vm
open Go Go.VM
set_option linter.unusedVariables false
set_option maxRecDepth 100000
set_option maxHeartbeats 4000000
namespace Go.Proofs.Ytdfjodnkplbffaa.Vm
/-! ### cotillion/cotillionref16.and: function 64 -/
def L64 {R : Type} (_ : ORC R) (_ : Nat) : Nat → St → (Ex → St → Option R) → Option R := fun _ _ _ => none
def f64 {R : Type} (G : ORC R) (k : Nat) (al1 : List V) (ai2 ai3 : Int) (as4 : ByteArray) (al5 : List V) (ai6 : Int) (al7 al8 : List V) (al9 al10 : List V) (K : List V → Option R) : Option R :=
  (bif (decide (0 < ((List.length al5 : Nat) : Int))) then (nthK al5 0 fun e11 => (V.asAgg e11 fun l12 => (G 42 [(.sl 4 al1), (.agg l12), (.agg [(.sl 1 al7), (.sl 1 al8), (.sl 1 al9), (.sl 7 al10)])] fun o13 => (uL 4 o13 fun l15 r14 => (unNil r14 (bif (decide (List.length l15 + 1 ≤ 1073741824)) then (bif (decide (1 < ((List.length al5 : Nat) : Int))) then (nthK al5 1 fun e16 => (V.asAgg e16 fun l17 => (G 42 [(.sl 4 (l15 ++ [(.agg [(.int .i64 24), (.int .i64 0), (.int .i64 0), (.str ⟨#[]⟩)])])), (.agg l17), (.agg [(.sl 1 al7), (.sl 1 al8), (.sl 1 al9), (.sl 7 al10)])] fun o18 => (uL 4 o18 fun l20 r19 => (unNil r19 (bif (decide (List.length l20 + 3 ≤ 1073741824)) then (bif ((decide (0 ≤ ((List.length l15 : Nat) : Int))) && (decide (((List.length l15 : Nat) : Int) < ((List.length (l20 ++ [(.agg [(.int .i64 24), (.int .i64 0), (.int .i64 0), (.str ⟨#[]⟩)]), (.agg [(.int .i64 1), (.int .i64 0), (.int .i64 1), (.str ⟨#[]⟩)]), (.agg [(.int .i64 23), (.int .i64 0), (.int .i64 0), (.str ⟨#[]⟩)])]) : Nat) : Int)))) then (nthK (l20 ++ [(.agg [(.int .i64 24), (.int .i64 0), (.int .i64 0), (.str ⟨#[]⟩)]), (.agg [(.int .i64 1), (.int .i64 0), (.int .i64 1), (.str ⟨#[]⟩)]), (.agg [(.int .i64 23), (.int .i64 0), (.int .i64 0), (.str ⟨#[]⟩)])]) (Int.toNat ((List.length l15 : Nat) : Int)) fun e21 => (ca4 e21 fun c22 c23 c24 c25 => (bif ((decide (0 ≤ ((List.length l20 : Nat) : Int))) && (decide (((List.length l20 : Nat) : Int) < ((List.length (List.set (l20 ++ [(.agg [(.int .i64 24), (.int .i64 0), (.int .i64 0), (.str ⟨#[]⟩)]), (.agg [(.int .i64 1), (.int .i64 0), (.int .i64 1), (.str ⟨#[]⟩)]), (.agg [(.int .i64 23), (.int .i64 0), (.int .i64 0), (.str ⟨#[]⟩)])]) (Int.toNat ((List.length l15 : Nat) : Int)) (.agg [c22, (.int .i64 ((List.length (l20 ++ [(.agg [(.int .i64 24), (.int .i64 0), (.int .i64 0), (.str ⟨#[]⟩)]), (.agg [(.int .i64 1), (.int .i64 0), (.int .i64 1), (.str ⟨#[]⟩)]), (.agg [(.int .i64 23), (.int .i64 0), (.int .i64 0), (.str ⟨#[]⟩)])]) : Nat) : Int)), c24, c25])) : Nat) : Int)))) then (nthK (List.set (l20 ++ [(.agg [(.int .i64 24), (.int .i64 0), (.int .i64 0), (.str ⟨#[]⟩)]), (.agg [(.int .i64 1), (.int .i64 0), (.int .i64 1), (.str ⟨#[]⟩)]), (.agg [(.int .i64 23), (.int .i64 0), (.int .i64 0), (.str ⟨#[]⟩)])]) (Int.toNat ((List.length l15 : Nat) : Int)) (.agg [c22, (.int .i64 ((List.length (l20 ++ [(.agg [(.int .i64 24), (.int .i64 0), (.int .i64 0), (.str ⟨#[]⟩)]), (.agg [(.int .i64 1), (.int .i64 0), (.int .i64 1), (.str ⟨#[]⟩)]), (.agg [(.int .i64 23), (.int .i64 0), (.int .i64 0), (.str ⟨#[]⟩)])]) : Nat) : Int)), c24, c25])) (Int.toNat ((List.length l20 : Nat) : Int)) fun e26 => (ca4 e26 fun c27 c28 c29 c30 => (bif (decide (List.length (List.set (List.set (l20 ++ [(.agg [(.int .i64 24), (.int .i64 0), (.int .i64 0), (.str ⟨#[]⟩)]), (.agg [(.int .i64 1), (.int .i64 0), (.int .i64 1), (.str ⟨#[]⟩)]), (.agg [(.int .i64 23), (.int .i64 0), (.int .i64 0), (.str ⟨#[]⟩)])]) (Int.toNat ((List.length l15 : Nat) : Int)) (.agg [c22, (.int .i64 ((List.length (l20 ++ [(.agg [(.int .i64 24), (.int .i64 0), (.int .i64 0), (.str ⟨#[]⟩)]), (.agg [(.int .i64 1), (.int .i64 0), (.int .i64 1), (.str ⟨#[]⟩)]), (.agg [(.int .i64 23), (.int .i64 0), (.int .i64 0), (.str ⟨#[]⟩)])]) : Nat) : Int)), c24, c25])) (Int.toNat ((List.length l20 : Nat) : Int)) (.agg [c27, (.int .i64 ((List.length (l20 ++ [(.agg [(.int .i64 24), (.int .i64 0), (.int .i64 0), (.str ⟨#[]⟩)]), (.agg [(.int .i64 1), (.int .i64 0), (.int .i64 1), (.str ⟨#[]⟩)]), (.agg [(.int .i64 23), (.int .i64 0), (.int .i64 0), (.str ⟨#[]⟩)])]) : Nat) : Int)), c29, c30])) + 1 ≤ 1073741824)) then (bif ((decide (0 ≤ (IntKind.i64.wrap (((List.length l20 : Nat) : Int) + 2)))) && (decide ((IntKind.i64.wrap (((List.length l20 : Nat) : Int) + 2)) < ((List.length ((List.set (List.set (l20 ++ [(.agg [(.int .i64 24), (.int .i64 0), (.int .i64 0), (.str ⟨#[]⟩)]), (.agg [(.int .i64 1), (.int .i64 0), (.int .i64 1), (.str ⟨#[]⟩)]), (.agg [(.int .i64 23), (.int .i64 0), (.int .i64 0), (.str ⟨#[]⟩)])]) (Int.toNat ((List.length l15 : Nat) : Int)) (.agg [c22, (.int .i64 ((List.length (l20 ++ [(.agg [(.int .i64 24), (.int .i64 0), (.int .i64 0), (.str ⟨#[]⟩)]), (.agg [(.int .i64 1), (.int .i64 0), (.int .i64 1), (.str ⟨#[]⟩)]), (.agg [(.int .i64 23), (.int .i64 0), (.int .i64 0), (.str ⟨#[]⟩)])]) : Nat) : Int)), c24, c25])) (Int.toNat ((List.length l20 : Nat) : Int)) (.agg [c27, (.int .i64 ((List.length (l20 ++ [(.agg [(.int .i64 24), (.int .i64 0), (.int .i64 0), (.str ⟨#[]⟩)]), (.agg [(.int .i64 1), (.int .i64 0), (.int .i64 1), (.str ⟨#[]⟩)]), (.agg [(.int .i64 23), (.int .i64 0), (.int .i64 0), (.str ⟨#[]⟩)])]) : Nat) : Int)), c29, c30])) ++ [(.agg [(.int .i64 1), (.int .i64 0), (.int .i64 0), (.str ⟨#[]⟩)])]) : Nat) : Int)))) then (nthK ((List.set (List.set (l20 ++ [(.agg [(.int .i64 24), (.int .i64 0), (.int .i64 0), (.str ⟨#[]⟩)]), (.agg [(.int .i64 1), (.int .i64 0), (.int .i64 1), (.str ⟨#[]⟩)]), (.agg [(.int .i64 23), (.int .i64 0), (.int .i64 0), (.str ⟨#[]⟩)])]) (Int.toNat ((List.length l15 : Nat) : Int)) (.agg [c22, (.int .i64 ((List.length (l20 ++ [(.agg [(.int .i64 24), (.int .i64 0), (.int .i64 0), (.str ⟨#[]⟩)]), (.agg [(.int .i64 1), (.int .i64 0), (.int .i64 1), (.str ⟨#[]⟩)]), (.agg [(.int .i64 23), (.int .i64 0), (.int .i64 0), (.str ⟨#[]⟩)])]) : Nat) : Int)), c24, c25])) (Int.toNat ((List.length l20 : Nat) : Int)) (.agg [c27, (.int .i64 ((List.length (l20 ++ [(.agg [(.int .i64 24), (.int .i64 0), (.int .i64 0), (.str ⟨#[]⟩)]), (.agg [(.int .i64 1), (.int .i64 0), (.int .i64 1), (.str ⟨#[]⟩)]), (.agg [(.int .i64 23), (.int .i64 0), (.int .i64 0), (.str ⟨#[]⟩)])]) : Nat) : Int)), c29, c30])) ++ [(.agg [(.int .i64 1), (.int .i64 0), (.int .i64 0), (.str ⟨#[]⟩)])]) (Int.toNat (IntKind.i64.wrap (((List.length l20 : Nat) : Int) + 2))) fun e31 => (ca4 e31 fun c32 c33 c34 c35 => (K [(.sl 4 (List.set ((List.set (List.set (l20 ++ [(.agg [(.int .i64 24), (.int .i64 0), (.int .i64 0), (.str ⟨#[]⟩)]), (.agg [(.int .i64 1), (.int .i64 0), (.int .i64 1), (.str ⟨#[]⟩)]), (.agg [(.int .i64 23), (.int .i64 0), (.int .i64 0), (.str ⟨#[]⟩)])]) (Int.toNat ((List.length l15 : Nat) : Int)) (.agg [c22, (.int .i64 ((List.length (l20 ++ [(.agg [(.int .i64 24), (.int .i64 0), (.int .i64 0), (.str ⟨#[]⟩)]), (.agg [(.int .i64 1), (.int .i64 0), (.int .i64 1), (.str ⟨#[]⟩)]), (.agg [(.int .i64 23), (.int .i64 0), (.int .i64 0), (.str ⟨#[]⟩)])]) : Nat) : Int)), c24, c25])) (Int.toNat ((List.length l20 : Nat) : Int)) (.agg [c27, (.int .i64 ((List.length (l20 ++ [(.agg [(.int .i64 24), (.int .i64 0), (.int .i64 0), (.str ⟨#[]⟩)]), (.agg [(.int .i64 1), (.int .i64 0), (.int .i64 1), (.str ⟨#[]⟩)]), (.agg [(.int .i64 23), (.int .i64 0), (.int .i64 0), (.str ⟨#[]⟩)])]) : Nat) : Int)), c29, c30])) ++ [(.agg [(.int .i64 1), (.int .i64 0), (.int .i64 0), (.str ⟨#[]⟩)])]) (Int.toNat (IntKind.i64.wrap (((List.length l20 : Nat) : Int) + 2))) (.agg [c32, (.int .i64 ((List.length ((List.set (List.set (l20 ++ [(.agg [(.int .i64 24), (.int .i64 0), (.int .i64 0), (.str ⟨#[]⟩)]), (.agg [(.int .i64 1), (.int .i64 0), (.int .i64 1), (.str ⟨#[]⟩)]), (.agg [(.int .i64 23), (.int .i64 0), (.int .i64 0), (.str ⟨#[]⟩)])]) (Int.toNat ((List.length l15 : Nat) : Int)) (.agg [c22, (.int .i64 ((List.length (l20 ++ [(.agg [(.int .i64 24), (.int .i64 0), (.int .i64 0), (.str ⟨#[]⟩)]), (.agg [(.int .i64 1), (.int .i64 0), (.int .i64 1), (.str ⟨#[]⟩)]), (.agg [(.int .i64 23), (.int .i64 0), (.int .i64 0), (.str ⟨#[]⟩)])]) : Nat) : Int)), c24, c25])) (Int.toNat ((List.length l20 : Nat) : Int)) (.agg [c27, (.int .i64 ((List.length (l20 ++ [(.agg [(.int .i64 24), (.int .i64 0), (.int .i64 0), (.str ⟨#[]⟩)]), (.agg [(.int .i64 1), (.int .i64 0), (.int .i64 1), (.str ⟨#[]⟩)]), (.agg [(.int .i64 23), (.int .i64 0), (.int .i64 0), (.str ⟨#[]⟩)])]) : Nat) : Int)), c29, c30])) ++ [(.agg [(.int .i64 1), (.int .i64 0), (.int .i64 0), (.str ⟨#[]⟩)])]) : Nat) : Int)), c34, c35])))]))) else none) else none))) else none))) else none) else none)))))) else none) else none)))))) else none)
theorem f64_is {R : Type} (G : ORC R) (k : Nat) (K : List V → Option R) (al1 : List V) (ai2 ai3 : Int) (as4 : ByteArray) (al5 : List V) (ai6 : Int) (al7 al8 : List V) (al9 al10 : List V) :
    callF (TAB.env 64) G (L64 G k) Try.f64 S64 [(.sl 4 al1), (.agg [(.int .i64 ai2), (.int .i64 ai3), (.str as4), (.sl 5 al5), (.int .i64 ai6)]), (.agg [(.sl 1 al7), (.sl 1 al8), (.sl 1 al9), (.sl 7 al10)])] K = f64 G k al1 ai2 ai3 as4 al5 ai6 al7 al8 al9 al10 K := by kernel_rfl
theorem lo64 : loopsOf (bodyOf Try.f64) = [] := by kernel_rfl
theorem la64 {R : Type} (G : ORC R) (k : Nat) : LoopsAre (TAB.env 64) G (L64 G k) (bodyOf Try.f64) :=
  loopsAre_of (by rw [lo64]; intro p hp; cases hp)
def g64 {R : Type} (G : ORC R) (k : Nat) (args : List V) (K : List V → Option R) : Option R := match args with
  | [(.sl 4 al1), (.agg [(.int .i64 ai2), (.int .i64 ai3), (.str as4), (.sl 5 al5), (.int .i64 ai6)]), (.agg [(.sl 1 al7), (.sl 1 al8), (.sl 1 al9), (.sl 7 al10)])] => f64 G k al1 ai2 ai3 as4 al5 ai6 al7 al8 al9 al10 K
  | _ => none
theorem s64 {R : Type} {G : ORC R} {k : Nat} (hG : Sound Try.prog TAB G) (args : List V) (K : List V → Option R) (r : R) (h : g64 G k args K = some r) : ∃ o, CallOK Try.prog TAB.env 64 args o ∧ K o = some r := by
  unfold g64 at h
  split at h
  · rw [← f64_is] at h
    exact callF_sound (f := 64) TAB_chk MO hG Try.func64 (sg := S64) (by kernel_rfl) (by kernel_rfl) (la64 G k) h
  · cases h
end Go.Proofs.Ytdfjodnkplbffaa.Vm
open Go Go.VM
set_option linter.unusedVariables false
set_option maxRecDepth 100000
set_option maxHeartbeats 4000000
namespace Go.Proofs.Ytdfjodnkplbffaa.Vm
/-! ### cotillion/cotillionref16.or: function 65 -/
def L65 {R : Type} (_ : ORC R) (_ : Nat) : Nat → St → (Ex → St → Option R) → Option R := fun _ _ _ => none
def f65 {R : Type} (G : ORC R) (k : Nat) (al1 : List V) (ai2 ai3 : Int) (as4 : ByteArray) (al5 : List V) (ai6 : Int) (al7 al8 : List V) (al9 al10 : List V) (K : List V → Option R) : Option R :=
  (bif (decide (0 < ((List.length al5 : Nat) : Int))) then (nthK al5 0 fun e11 => (V.asAgg e11 fun l12 => (G 42 [(.sl 4 al1), (.agg l12), (.agg [(.sl 1 al7), (.sl 1 al8), (.sl 1 al9), (.sl 7 al10)])] fun o13 => (uL 4 o13 fun l15 r14 => (unNil r14 (bif (decide (List.length l15 + 3 ≤ 1073741824)) then (bif ((decide (0 ≤ ((List.length l15 : Nat) : Int))) && (decide (((List.length l15 : Nat) : Int) < ((List.length (l15 ++ [(.agg [(.int .i64 24), (.int .i64 0), (.int .i64 0), (.str ⟨#[]⟩)]), (.agg [(.int .i64 1), (.int .i64 0), (.int .i64 1), (.str ⟨#[]⟩)]), (.agg [(.int .i64 23), (.int .i64 0), (.int .i64 0), (.str ⟨#[]⟩)])]) : Nat) : Int)))) then (nthK (l15 ++ [(.agg [(.int .i64 24), (.int .i64 0), (.int .i64 0), (.str ⟨#[]⟩)]), (.agg [(.int .i64 1), (.int .i64 0), (.int .i64 1), (.str ⟨#[]⟩)]), (.agg [(.int .i64 23), (.int .i64 0), (.int .i64 0), (.str ⟨#[]⟩)])]) (Int.toNat ((List.length l15 : Nat) : Int)) fun e16 => (ca4 e16 fun c17 c18 c19 c20 => (bif (decide (1 < ((List.length al5 : Nat) : Int))) then (nthK al5 1 fun e21 => (V.asAgg e21 fun l22 => (G 42 [(.sl 4 (List.set (l15 ++ [(.agg [(.int .i64 24), (.int .i64 0), (.int .i64 0), (.str ⟨#[]⟩)]), (.agg [(.int .i64 1), (.int .i64 0), (.int .i64 1), (.str ⟨#[]⟩)]), (.agg [(.int .i64 23), (.int .i64 0), (.int .i64 0), (.str ⟨#[]⟩)])]) (Int.toNat ((List.length l15 : Nat) : Int)) (.agg [c17, (.int .i64 ((List.length (l15 ++ [(.agg [(.int .i64 24), (.int .i64 0), (.int .i64 0), (.str ⟨#[]⟩)]), (.agg [(.int .i64 1), (.int .i64 0), (.int .i64 1), (.str ⟨#[]⟩)]), (.agg [(.int .i64 23), (.int .i64 0), (.int .i64 0), (.str ⟨#[]⟩)])]) : Nat) : Int)), c19, c20]))), (.agg l22), (.agg [(.sl 1 al7), (.sl 1 al8), (.sl 1 al9), (.sl 7 al10)])] fun o23 => (uL 4 o23 fun l25 r24 => (unNil r24 (bif (decide (List.length l25 + 3 ≤ 1073741824)) then (bif ((decide (0 ≤ ((List.length l25 : Nat) : Int))) && (decide (((List.length l25 : Nat) : Int) < ((List.length (l25 ++ [(.agg [(.int .i64 24), (.int .i64 0), (.int .i64 0), (.str ⟨#[]⟩)]), (.agg [(.int .i64 1), (.int .i64 0), (.int .i64 1), (.str ⟨#[]⟩)]), (.agg [(.int .i64 23), (.int .i64 0), (.int .i64 0), (.str ⟨#[]⟩)])]) : Nat) : Int)))) then (nthK (l25 ++ [(.agg [(.int .i64 24), (.int .i64 0), (.int .i64 0), (.str ⟨#[]⟩)]), (.agg [(.int .i64 1), (.int .i64 0), (.int .i64 1), (.str ⟨#[]⟩)]), (.agg [(.int .i64 23), (.int .i64 0), (.int .i64 0), (.str ⟨#[]⟩)])]) (Int.toNat ((List.length l25 : Nat) : Int)) fun e26 => (ca4 e26 fun c27 c28 c29 c30 => (bif (decide (List.length (List.set (l25 ++ [(.agg [(.int .i64 24), (.int .i64 0), (.int .i64 0), (.str ⟨#[]⟩)]), (.agg [(.int .i64 1), (.int .i64 0), (.int .i64 1), (.str ⟨#[]⟩)]), (.agg [(.int .i64 23), (.int .i64 0), (.int .i64 0), (.str ⟨#[]⟩)])]) (Int.toNat ((List.length l25 : Nat) : Int)) (.agg [c27, (.int .i64 ((List.length (l25 ++ [(.agg [(.int .i64 24), (.int .i64 0), (.int .i64 0), (.str ⟨#[]⟩)]), (.agg [(.int .i64 1), (.int .i64 0), (.int .i64 1), (.str ⟨#[]⟩)]), (.agg [(.int .i64 23), (.int .i64 0), (.int .i64 0), (.str ⟨#[]⟩)])]) : Nat) : Int)), c29, c30])) + 1 ≤ 1073741824)) then (bif ((decide (0 ≤ (IntKind.i64.wrap (((List.length l15 : Nat) : Int) + 2)))) && (decide ((IntKind.i64.wrap (((List.length l15 : Nat) : Int) + 2)) < ((List.length ((List.set (l25 ++ [(.agg [(.int .i64 24), (.int .i64 0), (.int .i64 0), (.str ⟨#[]⟩)]), (.agg [(.int .i64 1), (.int .i64 0), (.int .i64 1), (.str ⟨#[]⟩)]), (.agg [(.int .i64 23), (.int .i64 0), (.int .i64 0), (.str ⟨#[]⟩)])]) (Int.toNat ((List.length l25 : Nat) : Int)) (.agg [c27, (.int .i64 ((List.length (l25 ++ [(.agg [(.int .i64 24), (.int .i64 0), (.int .i64 0), (.str ⟨#[]⟩)]), (.agg [(.int .i64 1), (.int .i64 0), (.int .i64 1), (.str ⟨#[]⟩)]), (.agg [(.int .i64 23), (.int .i64 0), (.int .i64 0), (.str ⟨#[]⟩)])]) : Nat) : Int)), c29, c30])) ++ [(.agg [(.int .i64 1), (.int .i64 0), (.int .i64 0), (.str ⟨#[]⟩)])]) : Nat) : Int)))) then (nthK ((List.set (l25 ++ [(.agg [(.int .i64 24), (.int .i64 0), (.int .i64 0), (.str ⟨#[]⟩)]), (.agg [(.int .i64 1), (.int .i64 0), (.int .i64 1), (.str ⟨#[]⟩)]), (.agg [(.int .i64 23), (.int .i64 0), (.int .i64 0), (.str ⟨#[]⟩)])]) (Int.toNat ((List.length l25 : Nat) : Int)) (.agg [c27, (.int .i64 ((List.length (l25 ++ [(.agg [(.int .i64 24), (.int .i64 0), (.int .i64 0), (.str ⟨#[]⟩)]), (.agg [(.int .i64 1), (.int .i64 0), (.int .i64 1), (.str ⟨#[]⟩)]), (.agg [(.int .i64 23), (.int .i64 0), (.int .i64 0), (.str ⟨#[]⟩)])]) : Nat) : Int)), c29, c30])) ++ [(.agg [(.int .i64 1), (.int .i64 0), (.int .i64 0), (.str ⟨#[]⟩)])]) (Int.toNat (IntKind.i64.wrap (((List.length l15 : Nat) : Int) + 2))) fun e31 => (ca4 e31 fun c32 c33 c34 c35 => (bif ((decide (0 ≤ (IntKind.i64.wrap (((List.length l25 : Nat) : Int) + 2)))) && (decide ((IntKind.i64.wrap (((List.length l25 : Nat) : Int) + 2)) < ((List.length (List.set ((List.set (l25 ++ [(.agg [(.int .i64 24), (.int .i64 0), (.int .i64 0), (.str ⟨#[]⟩)]), (.agg [(.int .i64 1), (.int .i64 0), (.int .i64 1), (.str ⟨#[]⟩)]), (.agg [(.int .i64 23), (.int .i64 0), (.int .i64 0), (.str ⟨#[]⟩)])]) (Int.toNat ((List.length l25 : Nat) : Int)) (.agg [c27, (.int .i64 ((List.length (l25 ++ [(.agg [(.int .i64 24), (.int .i64 0), (.int .i64 0), (.str ⟨#[]⟩)]), (.agg [(.int .i64 1), (.int .i64 0), (.int .i64 1), (.str ⟨#[]⟩)]), (.agg [(.int .i64 23), (.int .i64 0), (.int .i64 0), (.str ⟨#[]⟩)])]) : Nat) : Int)), c29, c30])) ++ [(.agg [(.int .i64 1), (.int .i64 0), (.int .i64 0), (.str ⟨#[]⟩)])]) (Int.toNat (IntKind.i64.wrap (((List.length l15 : Nat) : Int) + 2))) (.agg [c32, (.int .i64 ((List.length ((List.set (l25 ++ [(.agg [(.int .i64 24), (.int .i64 0), (.int .i64 0), (.str ⟨#[]⟩)]), (.agg [(.int .i64 1), (.int .i64 0), (.int .i64 1), (.str ⟨#[]⟩)]), (.agg [(.int .i64 23), (.int .i64 0), (.int .i64 0), (.str ⟨#[]⟩)])]) (Int.toNat ((List.length l25 : Nat) : Int)) (.agg [c27, (.int .i64 ((List.length (l25 ++ [(.agg [(.int .i64 24), (.int .i64 0), (.int .i64 0), (.str ⟨#[]⟩)]), (.agg [(.int .i64 1), (.int .i64 0), (.int .i64 1), (.str ⟨#[]⟩)]), (.agg [(.int .i64 23), (.int .i64 0), (.int .i64 0), (.str ⟨#[]⟩)])]) : Nat) : Int)), c29, c30])) ++ [(.agg [(.int .i64 1), (.int .i64 0), (.int .i64 0), (.str ⟨#[]⟩)])]) : Nat) : Int)), c34, c35])) : Nat) : Int)))) then (nthK (List.set ((List.set (l25 ++ [(.agg [(.int .i64 24), (.int .i64 0), (.int .i64 0), (.str ⟨#[]⟩)]), (.agg [(.int .i64 1), (.int .i64 0), (.int .i64 1), (.str ⟨#[]⟩)]), (.agg [(.int .i64 23), (.int .i64 0), (.int .i64 0), (.str ⟨#[]⟩)])]) (Int.toNat ((List.length l25 : Nat) : Int)) (.agg [c27, (.int .i64 ((List.length (l25 ++ [(.agg [(.int .i64 24), (.int .i64 0), (.int .i64 0), (.str ⟨#[]⟩)]), (.agg [(.int .i64 1), (.int .i64 0), (.int .i64 1), (.str ⟨#[]⟩)]), (.agg [(.int .i64 23), (.int .i64 0), (.int .i64 0), (.str ⟨#[]⟩)])]) : Nat) : Int)), c29, c30])) ++ [(.agg [(.int .i64 1), (.int .i64 0), (.int .i64 0), (.str ⟨#[]⟩)])]) (Int.toNat (IntKind.i64.wrap (((List.length l15 : Nat) : Int) + 2))) (.agg [c32, (.int .i64 ((List.length ((List.set (l25 ++ [(.agg [(.int .i64 24), (.int .i64 0), (.int .i64 0), (.str ⟨#[]⟩)]), (.agg [(.int .i64 1), (.int .i64 0), (.int .i64 1), (.str ⟨#[]⟩)]), (.agg [(.int .i64 23), (.int .i64 0), (.int .i64 0), (.str ⟨#[]⟩)])]) (Int.toNat ((List.length l25 : Nat) : Int)) (.agg [c27, (.int .i64 ((List.length (l25 ++ [(.agg [(.int .i64 24), (.int .i64 0), (.int .i64 0), (.str ⟨#[]⟩)]), (.agg [(.int .i64 1), (.int .i64 0), (.int .i64 1), (.str ⟨#[]⟩)]), (.agg [(.int .i64 23), (.int .i64 0), (.int .i64 0), (.str ⟨#[]⟩)])]) : Nat) : Int)), c29, c30])) ++ [(.agg [(.int .i64 1), (.int .i64 0), (.int .i64 0), (.str ⟨#[]⟩)])]) : Nat) : Int)), c34, c35])) (Int.toNat (IntKind.i64.wrap (((List.length l25 : Nat) : Int) + 2))) fun e36 => (ca4 e36 fun c37 c38 c39 c40 => (K [(.sl 4 (List.set (List.set ((List.set (l25 ++ [(.agg [(.int .i64 24), (.int .i64 0), (.int .i64 0), (.str ⟨#[]⟩)]), (.agg [(.int .i64 1), (.int .i64 0), (.int .i64 1), (.str ⟨#[]⟩)]), (.agg [(.int .i64 23), (.int .i64 0), (.int .i64 0), (.str ⟨#[]⟩)])]) (Int.toNat ((List.length l25 : Nat) : Int)) (.agg [c27, (.int .i64 ((List.length (l25 ++ [(.agg [(.int .i64 24), (.int .i64 0), (.int .i64 0), (.str ⟨#[]⟩)]), (.agg [(.int .i64 1), (.int .i64 0), (.int .i64 1), (.str ⟨#[]⟩)]), (.agg [(.int .i64 23), (.int .i64 0), (.int .i64 0), (.str ⟨#[]⟩)])]) : Nat) : Int)), c29, c30])) ++ [(.agg [(.int .i64 1), (.int .i64 0), (.int .i64 0), (.str ⟨#[]⟩)])]) (Int.toNat (IntKind.i64.wrap (((List.length l15 : Nat) : Int) + 2))) (.agg [c32, (.int .i64 ((List.length ((List.set (l25 ++ [(.agg [(.int .i64 24), (.int .i64 0), (.int .i64 0), (.str ⟨#[]⟩)]), (.agg [(.int .i64 1), (.int .i64 0), (.int .i64 1), (.str ⟨#[]⟩)]), (.agg [(.int .i64 23), (.int .i64 0), (.int .i64 0), (.str ⟨#[]⟩)])]) (Int.toNat ((List.length l25 : Nat) : Int)) (.agg [c27, (.int .i64 ((List.length (l25 ++ [(.agg [(.int .i64 24), (.int .i64 0), (.int .i64 0), (.str ⟨#[]⟩)]), (.agg [(.int .i64 1), (.int .i64 0), (.int .i64 1), (.str ⟨#[]⟩)]), (.agg [(.int .i64 23), (.int .i64 0), (.int .i64 0), (.str ⟨#[]⟩)])]) : Nat) : Int)), c29, c30])) ++ [(.agg [(.int .i64 1), (.int .i64 0), (.int .i64 0), (.str ⟨#[]⟩)])]) : Nat) : Int)), c34, c35])) (Int.toNat (IntKind.i64.wrap (((List.length l25 : Nat) : Int) + 2))) (.agg [c37, (.int .i64 ((List.length ((List.set (l25 ++ [(.agg [(.int .i64 24), (.int .i64 0), (.int .i64 0), (.str ⟨#[]⟩)]), (.agg [(.int .i64 1), (.int .i64 0), (.int .i64 1), (.str ⟨#[]⟩)]), (.agg [(.int .i64 23), (.int .i64 0), (.int .i64 0), (.str ⟨#[]⟩)])]) (Int.toNat ((List.length l25 : Nat) : Int)) (.agg [c27, (.int .i64 ((List.length (l25 ++ [(.agg [(.int .i64 24), (.int .i64 0), (.int .i64 0), (.str ⟨#[]⟩)]), (.agg [(.int .i64 1), (.int .i64 0), (.int .i64 1), (.str ⟨#[]⟩)]), (.agg [(.int .i64 23), (.int .i64 0), (.int .i64 0), (.str ⟨#[]⟩)])]) : Nat) : Int)), c29, c30])) ++ [(.agg [(.int .i64 1), (.int .i64 0), (.int .i64 0), (.str ⟨#[]⟩)])]) : Nat) : Int)), c39, c40])))]))) else none))) else none) else none))) else none) else none)))))) else none))) else none) else none)))))) else none)
theorem f65_is {R : Type} (G : ORC R) (k : Nat) (K : List V → Option R) (al1 : List V) (ai2 ai3 : Int) (as4 : ByteArray) (al5 : List V) (ai6 : Int) (al7 al8 : List V) (al9 al10 : List V) :
    callF (TAB.env 65) G (L65 G k) Try.f65 S65 [(.sl 4 al1), (.agg [(.int .i64 ai2), (.int .i64 ai3), (.str as4), (.sl 5 al5), (.int .i64 ai6)]), (.agg [(.sl 1 al7), (.sl 1 al8), (.sl 1 al9), (.sl 7 al10)])] K = f65 G k al1 ai2 ai3 as4 al5 ai6 al7 al8 al9 al10 K := by kernel_rfl
theorem lo65 : loopsOf (bodyOf Try.f65) = [] := by kernel_rfl
theorem la65 {R : Type} (G : ORC R) (k : Nat) : LoopsAre (TAB.env 65) G (L65 G k) (bodyOf Try.f65) :=
  loopsAre_of (by rw [lo65]; intro p hp; cases hp)
def g65 {R : Type} (G : ORC R) (k : Nat) (args : List V) (K : List V → Option R) : Option R := match args with
  | [(.sl 4 al1), (.agg [(.int .i64 ai2), (.int .i64 ai3), (.str as4), (.sl 5 al5), (.int .i64 ai6)]), (.agg [(.sl 1 al7), (.sl 1 al8), (.sl 1 al9), (.sl 7 al10)])] => f65 G k al1 ai2 ai3 as4 al5 ai6 al7 al8 al9 al10 K
  | _ => none
theorem s65 {R : Type} {G : ORC R} {k : Nat} (hG : Sound Try.prog TAB G) (args : List V) (K : List V → Option R) (r : R) (h : g65 G k args K = some r) : ∃ o, CallOK Try.prog TAB.env 65 args o ∧ K o = some r := by
  unfold g65 at h
  split at h
  · rw [← f65_is] at h
    exact callF_sound (f := 65) TAB_chk MO hG Try.func65 (sg := S65) (by kernel_rfl) (by kernel_rfl) (la65 G k) h
  · cases h
end Go.Proofs.Ytdfjodnkplbffaa.Vm
open Go Go.VM
set_option linter.unusedVariables false
set_option linter.unusedSimpArgs false
set_option maxRecDepth 100000
set_option maxHeartbeats 8000000
namespace Go.Proofs.Ytdfjodnkplbffaa.Vm
section
variable {R : Type} {G : ORC R} {k : Nat} {K : List V → Option R}
def ins (op a n : Int) : V := .agg [.int .i64 op, .int .i64 a, .int .i64 n, .str ⟨#[]⟩]
def insS (op a n : Int) (s : ByteArray) : V := .agg [.int .i64 op, .int .i64 a, .int .i64 n, .str s]
structure Nms where
  a : List V
  p : List V
  t : List V
  nd : List Nd
def Nms.v (N : Nms) : V := .agg [.sl 1 N.a, .sl 1 N.p, .sl 1 N.t, .sl 7 (N.nd.map Nd.v)]
def Nms.ok (N : Nms) : Prop := StrsS 100 N.a ∧ StrsS 100 N.p ∧ StrsS 100 N.t ∧ N.nd.length ≤ 1000 ∧ NamesNE N.nd
def plGo (s : ByteArray) : List V → Int → Int
  | .str t :: r, i => if t.toList = s.toList then i else plGo s r (i + 1)
  | _, _ => -1
/-- The place of a name. -/
def plN (l : List V) (s : ByteArray) : Int := plGo s l 0
def andX (at_ : Nat) (E0 E1 : List V) : List V :=
  E0 ++ ins 24 (at_ + E0.length + 1 + E1.length + 3) 0 :: (E1 ++ [ins 24 (at_ + E0.length + 1 + E1.length + 3) 0, ins 1 0 1, ins 23 (at_ + E0.length + 1 + E1.length + 4) 0, ins 1 0 0])
def orX (at_ : Nat) (E0 E1 : List V) : List V :=
  E0 ++ [ins 24 (at_ + E0.length + 3) 0, ins 1 0 1, ins 23 (at_ + E0.length + 3 + E1.length + 4) 0] ++ (E1 ++ [ins 24 (at_ + E0.length + 3 + E1.length + 3) 0, ins 1 0 1, ins 23 (at_ + E0.length + 3 + E1.length + 4) 0, ins 1 0 0])
/-- An expression's code, from a place on. -/
def cE (N : Nms) : Nat → Nat → V → List V
  | d + 1, at_, .agg [.int _ kind, .int _ n, .str nm, .sl _ kids, _] =>
    if kind = 1 then [ins 1 0 n] else if kind = 2 then [ins 2 (plN N.a nm) 0] else if kind = 3 then [ins 3 0 0] else if kind = 4 then [ins 4 (findN N.nd nm) 0]
    else match kids with
      | [a] => cE N d at_ a ++ [ins kind 0 0]
      | [a, b] => let E0 := cE N d at_ a
        if kind = 18 then andX at_ E0 (cE N d (at_ + E0.length + 1) b)
        else if kind = 19 then orX at_ E0 (cE N d (at_ + E0.length + 3) b)
        else E0 ++ cE N d (at_ + E0.length) b ++ [ins kind 0 0]
      | _ => []
  | _, _, _ => []
theorem andX_len {a : Nat} {E0 E1 : List V} : (andX a E0 E1).length = E0.length + E1.length + 5 := by simp [andX]; omega
theorem orX_len {a : Nat} {E0 E1 : List V} : (orX a E0 E1).length = E0.length + E1.length + 7 := by simp [orX]; omega
theorem cE_len {N : Nms} : ∀ {d at_ : Nat} {e : V}, ExprS d e → (cE N d at_ e).length ≤ ce d
  | 0, _, _, h => h.elim
  | d + 1, at_, e, h => by
    obtain ⟨kind, n, nm, kids, rfl, x1, x2, x3, x4, x5, x6, x7⟩ := h
    have hce : ce (d + 1) = 2 * ce d + 8 := rfl
    unfold cE
    split
    · simp; omega
    split
    · simp; omega
    split
    · simp; omega
    split
    · simp; omega
    split
    · rename_i a
      have := cE_len (N := N) (at_ := at_) (x6 a (by simp))
      simp; omega
    · rename_i a b
      have h1 := cE_len (N := N) (at_ := at_) (x6 a (by simp))
      have h2 := fun q => cE_len (N := N) (at_ := q) (x6 b (by simp))
      dsimp only
      split
      · rw [andX_len]; have := h2 (at_ + (cE N d at_ a).length + 1); omega
      split
      · rw [orX_len]; have := h2 (at_ + (cE N d at_ a).length + 3); omega
      · simp; have := h2 (at_ + (cE N d at_ a).length); omega
    · simp
theorem set_at {L Q : List V} {x v : V} {i : Nat} (h : i = L.length) : (L ++ x :: Q).set i v = L ++ v :: Q := by subst h; simp
theorem get_at {L Q : List V} {x : V} {i : Nat} (h : i = L.length) : (L ++ x :: Q)[i]? = some x := by subst h; simp
theorem W_nth0 {Q : List V → Prop} {a : V} {l : List V} {F : V → Option R} (h : W Q K (F a)) : W Q K (nthK (a :: l) 0 F) := h
theorem W_nth1 {Q : List V → Prop} {a b : V} {l : List V} {F : V → Option R} (h : W Q K (F b)) : W Q K (nthK (a :: b :: l) 1 F) := h
def PlX (f : FuncId) (G : ORC R) : Prop := ∀ (l : List V) (s : ByteArray) (K : List V → Option R), StrsS 100 l → W (fun o => o = [.int .i64 (plN l s)]) K (G f [.sl 1 l, .str s] K)
theorem pl_go {s : ByteArray} : ∀ {l : List V} {m : Nat} {i : Int}, StrsS 100 l → m ≤ l.length → (∀ j t, j < m → l[j]? = some (.str t) → t.toList ≠ s.toList) → plGo s l i = plGo s (l.drop m) (i + m)
  | l, 0, i, h, h1, h2 => by simp
  | [], m + 1, i, h, h1, h2 => by simp at h1
  | v :: r, m + 1, i, h, h1, h2 => by
    obtain ⟨t, rfl, ht⟩ := h.2 v List.mem_cons_self
    have hne := h2 0 t (by omega) rfl
    rw [plGo, if_neg hne, List.drop_succ_cons]
    rw [pl_go (m := m) (i := i + 1) ⟨by have := h.1; simp at this; omega, fun v hv => h.2 v (List.mem_cons_of_mem _ hv)⟩ (by simp at h1; omega) (fun j t hj e => h2 (j + 1) t (by omega) (by simpa using e))]
    congr 1; omega
theorem pl_hit {s t : ByteArray} {l : List V} {m : Nat} (h : StrsS 100 l) (h2 : ∀ j t, j < m → l[j]? = some (.str t) → t.toList ≠ s.toList) (hm : l[m]? = some (.str t)) (he : t.toList = s.toList) : plN l s = m := by
  obtain ⟨hl, e⟩ := List.getElem?_eq_some_iff.1 hm
  unfold plN
  rw [pl_go h (Nat.le_of_lt hl) h2, List.drop_eq_getElem_cons hl, e, plGo, if_pos he]; omega
theorem pl_none {s : ByteArray} {l : List V} (h : StrsS 100 l) (h2 : ∀ j t, j < l.length → l[j]? = some (.str t) → t.toList ≠ s.toList) : plN l s = -1 := by
  unfold plN
  rw [pl_go h (Nat.le_refl _) h2, List.drop_length]; rfl
theorem plx_loop {Q : List V → Prop} {K : List V → Option R} {Ko : Unit → Option R} {Kr : Int → Option R} {l : List V} {s : ByteArray} (hl : StrsS 100 l) (hKo : plN l s = -1 → W Q K (Ko ())) (hKr : ∀ i, plN l s = i → W Q K (Kr i)) :
    ∀ (j m : Nat), l.length - m < j → m ≤ l.length → (∀ j t, j < m → l[j]? = some (.str t) → t.toList ≠ s.toList) → W Q K (l61_0g G k Ko Kr j l s m)
  | 0, m, h1, h2, h3 => by omega
  | j + 1, m, h1, h2, h3 => by
    show W Q K (b61_0 G k (l61_0g G k Ko Kr j) Ko Kr l s m)
    unfold b61_0
    have hll := hl.1
    refine W_dec (fun h => ?_) (fun h => hKo (pl_none hl (by rw [show l.length = m by omega]; exact h3)))
    obtain ⟨v, hv⟩ : ∃ v, l[m]? = some v := ⟨_, List.getElem?_eq_getElem (by omega)⟩
    obtain ⟨t, rfl, ht⟩ := hl.2 v (List.mem_of_getElem? hv)
    refine W_at (by omega) (by rw [Int.toNat_natCast]; exact hv) (W_asStr (W_bool (fun he => hKr m (pl_hit hl h3 hv (by simpa using he))) (fun he => ?_)))
    rw [wrap_id (n := (m : Int) + 1) (by omega)]
    refine plx_loop hl hKo hKr j (m + 1) (by omega) (by omega) (fun i u hi hu => ?_)
    by_cases e : i = m
    · subst e; rw [hv] at hu; cases hu; intro c; rw [c] at he; simp at he
    · exact h3 i u (by omega) hu
theorem plx_ok (hk : 10000 ≤ k) : PlX 61 (fun _ args (K : List V → Option R) => g61 G k args K) := by
  intro l s K hl
  show W _ K (f61 G k l s K)
  unfold f61 l61_0
  have hll := hl.1
  exact plx_loop (Q := fun o => o = [.int .i64 (plN l s)]) (K := K) hl (fun e => W_ret (by rw [e])) (fun i e => W_ret (by rw [e])) k 0 (by omega) (by omega) (fun j t h => by omega)
def OpX (f : FuncId) (G : ORC R) : Prop := ∀ (n : Int) (K : List V → Option R), 5 ≤ n → n ≤ 17 → W (fun o => o = [.int .i64 n]) K (G f [.int .i64 n] K)
theorem opx_ok : OpX 63 (fun _ args (K : List V → Option R) => g63 G k args K) := by
  intro n K h1 h2
  show W _ K (f63 G k n K)
  unfold f63
  refine W_beqI (fun e => W_ret (by rw [e])) (fun _ => ?_)
  refine W_beqI (fun e => W_ret (by rw [e])) (fun _ => W_ret ?_)
  rw [wrap_id (n := 7 + n) (by omega), wrap_id (n := 7 + n - 7) (by omega), show 7 + n - 7 = n by omega]
def RX (d : Nat) (G : ORC R) : Prop := ∀ (c : List V) (e : V) (N : Nms) (K : List V → Option R), ExprS d e → N.ok → c.length + ce d ≤ 1000000 → W (fun o => o = [.sl 4 (c ++ cE N d c.length e)]) K (G 42 [.sl 4 c, e, N.v] K)
def RBX (f : FuncId) (X : Nat → List V → List V → List V) (q : Nat) (d : Nat) (G : ORC R) : Prop := ∀ (c : List V) (kind n x : Int) (nm : ByteArray) (a b : V) (N : Nms) (K : List V → Option R), ExprS d a → ExprS d b → N.ok → c.length + ce (d + 1) ≤ 1000000 →
  W (fun o => o = [.sl 4 (c ++ X c.length (cE N d c.length a) (cE N d (c.length + (cE N d c.length a).length + q) b))]) K (G f [.sl 4 c, .agg [.int .i64 kind, .int .i64 n, .str nm, .sl 5 [a, b], .int .i64 x], N.v] K)
theorem randx_ok {d : Nat} (hE : RX d G) : RBX 64 andX 1 d (fun _ args (K : List V → Option R) => g64 G k args K) := by
  intro c kind n x nm a b N K ha hb hN hm
  show W _ K (f64 G k c kind n nm [a, b] x N.a N.p N.t (N.nd.map Nd.v) K)
  unfold f64
  have hce : ce (d + 1) = 2 * ce d + 8 := rfl
  unfold RX at hE
  cases d with
  | zero => exact ha.elim
  | succ d =>
  have l0 := cE_len (N := N) (at_ := c.length) ha
  have l1 := fun q => cE_len (N := N) (at_ := q) hb
  have ha' := ha
  have hb' := hb
  obtain ⟨_, _, _, _, rfl, _⟩ := ha
  obtain ⟨_, _, _, _, rfl, _⟩ := hb
  refine W_yes (by simp) (W_nth0 (W_asAgg ?_))
  refine W_call (hE c _ N _ ha' hN (by omega)) ?_
  rintro _ rfl
  generalize hE0 : cE N (d + 1) c.length _ = E0 at l0 ⊢
  refine W_uL (W_unNil (W_yes (by simp; omega) (W_yes (by simp) (W_nth1 (W_asAgg ?_)))))
  refine W_call (hE _ _ N _ hb' hN (by simp; omega)) ?_
  rintro _ rfl
  have hl : (c ++ E0 ++ [V.agg [.int .i64 24, .int .i64 0, .int .i64 0, .str ⟨#[]⟩]]).length = c.length + E0.length + 1 := by simp; omega
  rw [hl]
  have l1 := l1 (c.length + E0.length + 1)
  generalize hE1 : cE N (d + 1) (c.length + E0.length + 1) _ = E1 at l1 ⊢
  refine W_uL (W_unNil (W_yes (by simp; omega) ?_))
  have e1 : c ++ E0 ++ [V.agg [.int .i64 24, .int .i64 0, .int .i64 0, .str ⟨#[]⟩]] ++ E1 ++ [V.agg [.int .i64 24, .int .i64 0, .int .i64 0, .str ⟨#[]⟩], .agg [.int .i64 1, .int .i64 0, .int .i64 1, .str ⟨#[]⟩], .agg [.int .i64 23, .int .i64 0, .int .i64 0, .str ⟨#[]⟩]] = (c ++ E0) ++ ins 24 0 0 :: (E1 ++ [ins 24 0 0, ins 1 0 1, ins 23 0 0]) := by simp [ins]
  have hy : (c ++ E0 ++ [V.agg [.int .i64 24, .int .i64 0, .int .i64 0, .str ⟨#[]⟩]] ++ E1).length = c.length + E0.length + 1 + E1.length := by simp; omega
  rw [e1, hy]
  refine W_at (by omega) (get_at (by (first | (simp only [Int.toNat_natCast, List.length_append, List.length_cons, List.length_nil, List.length_set]; done) | (simp only [Int.toNat_natCast, List.length_append, List.length_cons, List.length_nil, List.length_set]; omega)))) (W_ca4 ?_)
  rw [set_at (L := c ++ E0) (by (first | (simp only [Int.toNat_natCast, List.length_append, List.length_cons, List.length_nil, List.length_set]; done) | (simp only [Int.toNat_natCast, List.length_append, List.length_cons, List.length_nil, List.length_set]; omega)))]
  have e2 : ∀ z : V, (c ++ E0) ++ z :: (E1 ++ [ins 24 0 0, ins 1 0 1, ins 23 0 0]) = (c ++ E0 ++ z :: E1) ++ ins 24 0 0 :: [ins 1 0 1, ins 23 0 0] := fun z => by simp
  rw [e2]
  refine W_at (by omega) (get_at (by (first | (simp only [Int.toNat_natCast, List.length_append, List.length_cons, List.length_nil, List.length_set]; done) | (simp only [Int.toNat_natCast, List.length_append, List.length_cons, List.length_nil, List.length_set]; omega)))) (W_ca4 ?_)
  rw [set_at (L := c ++ E0 ++ _ :: E1) (by (first | (simp only [Int.toNat_natCast, List.length_append, List.length_cons, List.length_nil, List.length_set]; done) | (simp only [Int.toNat_natCast, List.length_append, List.length_cons, List.length_nil, List.length_set]; omega)))]
  refine W_yes (by (first | (simp only [Int.toNat_natCast, List.length_append, List.length_cons, List.length_nil, List.length_set]; done) | (simp only [Int.toNat_natCast, List.length_append, List.length_cons, List.length_nil, List.length_set]; omega))) ?_
  rw [wrap_id (n := ((c.length + E0.length + 1 + E1.length : Nat) : Int) + 2) (by omega)]
  have e3 : ∀ z y w : V, (c ++ E0 ++ z :: E1 ++ [y, ins 1 0 1, ins 23 0 0]) ++ [w] = (c ++ E0 ++ z :: E1 ++ [y, ins 1 0 1]) ++ ins 23 0 0 :: [w] := fun z y w => by simp
  rw [e3]
  have hi : (((c.length + E0.length + 1 + E1.length : Nat) : Int) + 2).toNat = c.length + E0.length + 1 + E1.length + 2 := by omega
  refine W_at (by omega) (get_at (by rw [hi]; (first | (simp only [Int.toNat_natCast, List.length_append, List.length_cons, List.length_nil, List.length_set]; done) | (simp only [Int.toNat_natCast, List.length_append, List.length_cons, List.length_nil, List.length_set]; omega)))) (W_ca4 ?_)
  rw [hi, set_at (L := c ++ E0 ++ _ :: E1 ++ [_, ins 1 0 1]) (by (first | (simp only [Int.toNat_natCast, List.length_append, List.length_cons, List.length_nil, List.length_set]; done) | (simp only [Int.toNat_natCast, List.length_append, List.length_cons, List.length_nil, List.length_set]; omega)))]
  refine W_ret ?_
  simp [andX, ins]
  omega
theorem rorx_ok {d : Nat} (hE : RX d G) : RBX 65 orX 3 d (fun _ args (K : List V → Option R) => g65 G k args K) := by
  intro c kind n x nm a b N K ha hb hN hm
  show W _ K (f65 G k c kind n nm [a, b] x N.a N.p N.t (N.nd.map Nd.v) K)
  unfold f65
  have hce : ce (d + 1) = 2 * ce d + 8 := rfl
  unfold RX at hE
  cases d with
  | zero => exact ha.elim
  | succ d =>
  have l0 := cE_len (N := N) (at_ := c.length) ha
  have l1 := fun q => cE_len (N := N) (at_ := q) hb
  have ha' := ha
  have hb' := hb
  obtain ⟨_, _, _, _, rfl, _⟩ := ha
  obtain ⟨_, _, _, _, rfl, _⟩ := hb
  refine W_yes (by simp) (W_nth0 (W_asAgg ?_))
  refine W_call (hE c _ N _ ha' hN (by omega)) ?_
  rintro _ rfl
  generalize hE0 : cE N (d + 1) c.length _ = E0 at l0 ⊢
  refine W_uL (W_unNil (W_yes (by simp; omega) ?_))
  have e1 : c ++ E0 ++ [V.agg [.int .i64 24, .int .i64 0, .int .i64 0, .str ⟨#[]⟩], .agg [.int .i64 1, .int .i64 0, .int .i64 1, .str ⟨#[]⟩], .agg [.int .i64 23, .int .i64 0, .int .i64 0, .str ⟨#[]⟩]] = (c ++ E0) ++ ins 24 0 0 :: [ins 1 0 1, ins 23 0 0] := by simp [ins]
  rw [e1]
  refine W_at (by omega) (get_at (by (first | (simp only [Int.toNat_natCast, List.length_append, List.length_cons, List.length_nil, List.length_set]; done) | (simp only [Int.toNat_natCast, List.length_append, List.length_cons, List.length_nil, List.length_set]; omega)))) (W_ca4 ?_)
  rw [set_at (L := c ++ E0) (by (first | (simp only [Int.toNat_natCast, List.length_append, List.length_cons, List.length_nil, List.length_set]; done) | (simp only [Int.toNat_natCast, List.length_append, List.length_cons, List.length_nil, List.length_set]; omega)))]
  have hl : ∀ z : V, (c ++ E0 ++ z :: [ins 1 0 1, ins 23 0 0]).length = c.length + E0.length + 3 := fun z => by simp; omega
  rw [hl]
  refine W_yes (by simp) (W_nth1 (W_asAgg ?_))
  refine W_call (hE _ _ N _ hb' hN (by rw [hl]; omega)) ?_
  rintro _ rfl
  rw [hl]
  have l1 := l1 (c.length + E0.length + 3)
  generalize hE1 : cE N (d + 1) (c.length + E0.length + 3) _ = E1 at l1 ⊢
  refine W_uL (W_unNil (W_yes (by (first | (simp only [Int.toNat_natCast, List.length_append, List.length_cons, List.length_nil, List.length_set]; done) | (simp only [Int.toNat_natCast, List.length_append, List.length_cons, List.length_nil, List.length_set]; omega))) ?_))
  have e2 : ∀ z : V, c ++ E0 ++ z :: [ins 1 0 1, ins 23 0 0] ++ E1 ++ [V.agg [.int .i64 24, .int .i64 0, .int .i64 0, .str ⟨#[]⟩], .agg [.int .i64 1, .int .i64 0, .int .i64 1, .str ⟨#[]⟩], .agg [.int .i64 23, .int .i64 0, .int .i64 0, .str ⟨#[]⟩]] = (c ++ E0 ++ z :: [ins 1 0 1, ins 23 0 0] ++ E1) ++ ins 24 0 0 :: [ins 1 0 1, ins 23 0 0] := fun z => by simp [ins]
  rw [e2]
  refine W_at (by omega) (get_at (by (first | (simp only [Int.toNat_natCast, List.length_append, List.length_cons, List.length_nil, List.length_set]; done) | (simp only [Int.toNat_natCast, List.length_append, List.length_cons, List.length_nil, List.length_set]; omega)))) (W_ca4 ?_)
  rw [set_at (L := c ++ E0 ++ _ :: [ins 1 0 1, ins 23 0 0] ++ E1) (by (first | (simp only [Int.toNat_natCast, List.length_append, List.length_cons, List.length_nil, List.length_set]; done) | (simp only [Int.toNat_natCast, List.length_append, List.length_cons, List.length_nil, List.length_set]; omega)))]
  refine W_yes (by (first | (simp only [Int.toNat_natCast, List.length_append, List.length_cons, List.length_nil, List.length_set]; done) | (simp only [Int.toNat_natCast, List.length_append, List.length_cons, List.length_nil, List.length_set]; omega))) ?_
  have hx : ((c ++ E0).length : Int) = (c.length + E0.length : Nat) := by simp
  have hy : ∀ z : V, ((c ++ E0 ++ z :: [ins 1 0 1, ins 23 0 0] ++ E1).length : Int) = (c.length + E0.length + 3 + E1.length : Nat) := fun z => by simp; omega
  rw [hx, hy]
  rw [wrap_id (n := ((c.length + E0.length : Nat) : Int) + 2) (by omega), wrap_id (n := ((c.length + E0.length + 3 + E1.length : Nat) : Int) + 2) (by omega)]
  have e3 : ∀ z y w : V, c ++ E0 ++ z :: [ins 1 0 1, ins 23 0 0] ++ E1 ++ y :: [ins 1 0 1, ins 23 0 0] ++ [w] = (c ++ E0 ++ [z, ins 1 0 1]) ++ ins 23 0 0 :: (E1 ++ y :: [ins 1 0 1, ins 23 0 0, w]) := fun z y w => by simp
  rw [e3]
  have hi : (((c.length + E0.length : Nat) : Int) + 2).toNat = c.length + E0.length + 2 := by omega
  have hj : (((c.length + E0.length + 3 + E1.length : Nat) : Int) + 2).toNat = c.length + E0.length + 3 + E1.length + 2 := by omega
  refine W_at (by omega) (get_at (by rw [hi]; (first | (simp only [Int.toNat_natCast, List.length_append, List.length_cons, List.length_nil, List.length_set]; done) | (simp only [Int.toNat_natCast, List.length_append, List.length_cons, List.length_nil, List.length_set]; omega)))) (W_ca4 ?_)
  rw [hi, set_at (L := c ++ E0 ++ [_, ins 1 0 1]) (by (first | (simp only [Int.toNat_natCast, List.length_append, List.length_cons, List.length_nil, List.length_set]; done) | (simp only [Int.toNat_natCast, List.length_append, List.length_cons, List.length_nil, List.length_set]; omega)))]
  have e4 : ∀ z u y w : V, (c ++ E0 ++ [z, ins 1 0 1]) ++ u :: (E1 ++ y :: [ins 1 0 1, ins 23 0 0, w]) = (c ++ E0 ++ [z, ins 1 0 1] ++ u :: E1 ++ [y, ins 1 0 1]) ++ ins 23 0 0 :: [w] := fun z u y w => by simp
  rw [e4]
  refine W_at (by omega) (get_at (by rw [hj]; (first | (simp only [Int.toNat_natCast, List.length_append, List.length_cons, List.length_nil, List.length_set]; done) | (simp only [Int.toNat_natCast, List.length_append, List.length_cons, List.length_nil, List.length_set]; omega)))) (W_ca4 ?_)
  rw [hj, set_at (L := c ++ E0 ++ [_, ins 1 0 1] ++ _ :: E1 ++ [_, ins 1 0 1]) (by (first | (simp only [Int.toNat_natCast, List.length_append, List.length_cons, List.length_nil, List.length_set]; done) | (simp only [Int.toNat_natCast, List.length_append, List.length_cons, List.length_nil, List.length_set]; omega)))]
  refine W_ret ?_
  simp [orX, ins]
  omega
theorem rexprx_ok {d : Nat} (hPl : PlX 61 G) (hF : FindOK G) (hOp : OpX 63 G) (hE : RX d G) (hA : RBX 64 andX 1 d G) (hO : RBX 65 orX 3 d G) : RX (d + 1) (fun _ args (K : List V → Option R) => g42 G k args K) := by
  intro c e N K he hN hm
  have hlen := cE_len (N := N) (at_ := c.length) he
  obtain ⟨kind, n, nm, kids, rfl, x1, x2, x3, x4, x5, x6, x7⟩ := he
  show W _ K (f42 G k c kind n nm kids 0 N.a N.p N.t (N.nd.map Nd.v) K)
  unfold f42
  have hce : ce (d + 1) = 2 * ce d + 8 := rfl
  unfold RX at hE; unfold RBX at hA hO; unfold PlX at hPl; unfold FindOK at hF; unfold OpX at hOp
  have hc1 : c.length + 1 ≤ 1073741824 := by omega
  refine W_beqI (fun h => W_yes hc1 (W_ret (by unfold cE; rw [if_pos h]; rfl))) (fun h1 => ?_)
  refine W_beqI (fun h => ?_) (fun h2 => ?_)
  · refine W_call (hPl _ _ _ hN.1) ?_
    rintro _ rfl
    (repeat (with_reducible (first | (refine W_uI ?_) | (refine W_uS ?_) | (refine W_uL ?_) | (refine W_uA ?_) | (refine W_uB ?_) | (refine W_aI ?_) | (refine W_aL ?_) | (refine W_ca3 ?_) | (refine W_ce3 ?_) | (refine W_ca4 ?_) | (refine W_ce4 ?_) | (refine W_ca5 ?_) | (refine W_ce5 ?_) | (refine W_ca6 ?_) | (refine W_ce6 ?_) | (refine W_ca7 ?_) | (refine W_ce7 ?_) | (refine W_ca8 ?_) | (refine W_ce8 ?_) | (refine W_nd7 ?_) | (refine W_unCons ?_) | (refine W_unNil ?_) | (refine W_asInt ?_) | (refine W_asBool ?_) | (refine W_asStr ?_) | (refine W_asSl ?_) | (refine W_asAgg ?_) | (refine W_kd ?_) | (refine W_z ?_))))
    exact W_yes hc1 (W_ret (by unfold cE; rw [if_neg h1, if_pos h]; rfl))
  refine W_beqI (fun h => W_yes hc1 (W_ret (by unfold cE; rw [if_neg h1, if_neg h2, if_pos h]; rfl))) (fun h3 => ?_)
  refine W_beqI (fun h => ?_) (fun h4 => ?_)
  · refine W_call (hF _ _ _ hN.2.2.2.1) ?_
    rintro _ rfl
    (repeat (with_reducible (first | (refine W_uI ?_) | (refine W_uS ?_) | (refine W_uL ?_) | (refine W_uA ?_) | (refine W_uB ?_) | (refine W_aI ?_) | (refine W_aL ?_) | (refine W_ca3 ?_) | (refine W_ce3 ?_) | (refine W_ca4 ?_) | (refine W_ce4 ?_) | (refine W_ca5 ?_) | (refine W_ce5 ?_) | (refine W_ca6 ?_) | (refine W_ce6 ?_) | (refine W_ca7 ?_) | (refine W_ce7 ?_) | (refine W_ca8 ?_) | (refine W_ce8 ?_) | (refine W_nd7 ?_) | (refine W_unCons ?_) | (refine W_unNil ?_) | (refine W_asInt ?_) | (refine W_asBool ?_) | (refine W_asStr ?_) | (refine W_asSl ?_) | (refine W_asAgg ?_) | (refine W_kd ?_) | (refine W_z ?_))))
    exact W_yes hc1 (W_ret (by unfold cE; rw [if_neg h1, if_neg h2, if_neg h3, if_pos h]; rfl))
  have unary : (kind = 5 ∨ kind = 6) → W (fun o => o = [.sl 4 (c ++ cE N (d + 1) c.length (.agg [.int .i64 kind, .int .i64 n, .str nm, .sl 5 kids, .int .i64 0]))]) K
      (bif decide (0 < ((List.length kids : Nat) : Int)) then nthK kids 0 fun e17 => V.asAgg e17 fun l18 => G 42 [.sl 4 c, .agg l18, .agg [.sl 1 N.a, .sl 1 N.p, .sl 1 N.t, .sl 7 (N.nd.map Nd.v)]] fun o19 => uL 4 o19 fun l21 r20 => unNil r20 (G 63 [.int .i64 kind] fun o22 => uI .i64 o22 fun n24 r23 => unNil r23 (bif decide (List.length l21 + 1 ≤ 1073741824) then K [.sl 4 (l21 ++ [.agg [.int .i64 n24, .int .i64 0, .int .i64 0, .str ⟨#[]⟩]])] else none)) else none) := fun h => by
    have hk1 : kids.length = 1 := by omega
    obtain ⟨a, rfl⟩ : ∃ a, kids = [a] := by
      match kids, hk1 with
      | [a], _ => exact ⟨a, rfl⟩
    have ha := x6 a (by simp)
    have la := cE_len (N := N) (at_ := c.length) ha
    have ha' := ha
    cases d with
    | zero => exact ha.elim
    | succ d =>
    obtain ⟨_, _, _, _, rfl, _⟩ := ha
    refine W_yes (by simp) (W_nth0 (W_asAgg ?_))
    refine W_call (hE c _ N _ ha' hN (by omega)) ?_
    rintro _ rfl
    refine W_uL (W_unNil ?_)
    refine W_call (hOp _ _ (by omega) (by omega)) ?_
    rintro _ rfl
    refine W_uI (W_unNil (W_yes (by simp; omega) (W_ret ?_)))
    conv => rhs; unfold cE
    rw [if_neg h1, if_neg h2, if_neg h3, if_neg h4, List.append_assoc]
    rfl
  refine W_beqI (fun h5 => ?_) (fun h5 => ?_)
  · exact W_eqY h5 (unary (.inl h5))
  refine W_beqI (fun h6 => unary (.inr h6)) (fun h6 => ?_)
  have hk2 : kids.length = 2 := by omega
  obtain ⟨a, b, rfl⟩ : ∃ a b, kids = [a, b] := by
    match kids, hk2 with
    | [a, b], _ => exact ⟨a, b, rfl⟩
  have ha := x6 a (by simp)
  have hb := x6 b (by simp)
  refine W_beqI (fun h18 => ?_) (fun h18 => ?_)
  · refine W_call (hA c kind n 0 nm a b N _ ha hb hN hm) ?_
    rintro _ rfl
    refine W_uL (W_unNil (W_ret ?_))
    conv => rhs; unfold cE
    rw [if_neg h1, if_neg h2, if_neg h3, if_neg h4]
    dsimp only
    rw [if_pos h18]
  refine W_beqI (fun h19 => ?_) (fun h19 => ?_)
  · refine W_call (hO c kind n 0 nm a b N _ ha hb hN hm) ?_
    rintro _ rfl
    refine W_uL (W_unNil (W_ret ?_))
    conv => rhs; unfold cE
    rw [if_neg h1, if_neg h2, if_neg h3, if_neg h4]
    dsimp only
    rw [if_neg h18, if_pos h19]
  cases d with
  | zero => exact ha.elim
  | succ d =>
  have l0 := cE_len (N := N) (at_ := c.length) ha
  have l1 := fun q => cE_len (N := N) (at_ := q) hb
  have ha' := ha
  have hb' := hb
  have fin : ∀ E0 E1 : List V, E0 = cE N (d + 1) c.length a → E1 = cE N (d + 1) (c.length + E0.length) b → [V.sl 4 (c ++ E0 ++ E1 ++ [ins kind 0 0])] = [V.sl 4 (c ++ cE N (d + 1 + 1) c.length (.agg [.int .i64 kind, .int .i64 n, .str nm, .sl 5 [a, b], .int .i64 0]))] := fun E0 E1 q0 q1 => by
    conv => rhs; unfold cE
    rw [if_neg h1, if_neg h2, if_neg h3, if_neg h4]
    dsimp only
    rw [if_neg h18, if_neg h19, ← q0, ← q1]
    simp
  obtain ⟨_, _, _, _, rfl, _⟩ := ha
  obtain ⟨_, _, _, _, rfl, _⟩ := hb
  refine W_yes (by simp) (W_nth0 (W_asAgg ?_))
  refine W_call (hE c _ N _ ha' hN (by omega)) ?_
  rintro _ rfl
  generalize q0 : cE N (d + 1) c.length _ = E0 at l0 ⊢
  refine W_uL (W_unNil (W_yes (by simp) (W_nth1 (W_asAgg ?_))))
  refine W_call (hE _ _ N _ hb' hN (by simp; omega)) ?_
  rintro _ rfl
  rw [List.length_append]
  have l1 := l1 (c.length + E0.length)
  generalize q1 : cE N (d + 1) (c.length + E0.length) _ = E1 at l1 ⊢
  refine W_uL (W_unNil ?_)
  refine W_call (hOp _ _ (by omega) (by omega)) ?_
  rintro _ rfl
  exact W_uI (W_unNil (W_yes (by simp; omega) (W_ret (fin _ _ q0.symm q1.symm))))
end
end Go.Proofs.Ytdfjodnkplbffaa.Vm
open Go Go.VM
set_option linter.unusedVariables false
set_option maxRecDepth 100000
set_option maxHeartbeats 4000000
namespace Go.Proofs.Ytdfjodnkplbffaa.Vm
/-! ### (*cotillion/code.writer).put: function 56 -/
def L56 {R : Type} (_ : ORC R) (_ : Nat) : Nat → St → (Ex → St → Option R) → Option R := fun _ _ _ => none
def f56 {R : Type} (G : ORC R) (k : Nat) (ai1 ai2 ai3 : Int) (as4 : ByteArray) (bl5 bl6 : List V) (bl7 bl8 bl9 : List V) (K : List V → Option R) : Option R :=
  (bif (decide (List.length bl9 + 1 ≤ 1073741824)) then (K [(.int .i64 (IntKind.i64.wrap (((List.length (bl9 ++ [(.agg [(.int .i64 ai1), (.int .i64 ai2), (.int .i64 ai3), (.str as4)])]) : Nat) : Int) - 1))), (.sl 4 (bl9 ++ [(.agg [(.int .i64 ai1), (.int .i64 ai2), (.int .i64 ai3), (.str as4)])]))]) else none)
theorem f56_is {R : Type} (G : ORC R) (k : Nat) (K : List V → Option R) (ai1 ai2 ai3 : Int) (as4 : ByteArray) (bl5 bl6 : List V) (bl7 bl8 bl9 : List V) :
    callF (TAB.env 56) G (L56 G k) Try.f56 S56 [(.agg [(.int .i64 ai1), (.int .i64 ai2), (.int .i64 ai3), (.str as4)]), (.sl 1 bl5), (.sl 1 bl6), (.sl 1 bl7), (.sl 7 bl8), (.sl 4 bl9)] K = f56 G k ai1 ai2 ai3 as4 bl5 bl6 bl7 bl8 bl9 K := by kernel_rfl
theorem lo56 : loopsOf (bodyOf Try.f56) = [] := by kernel_rfl
theorem la56 {R : Type} (G : ORC R) (k : Nat) : LoopsAre (TAB.env 56) G (L56 G k) (bodyOf Try.f56) :=
  loopsAre_of (by rw [lo56]; intro p hp; cases hp)
def g56 {R : Type} (G : ORC R) (k : Nat) (args : List V) (K : List V → Option R) : Option R := match args with
  | [(.agg [(.int .i64 ai1), (.int .i64 ai2), (.int .i64 ai3), (.str as4)]), (.sl 1 bl5), (.sl 1 bl6), (.sl 1 bl7), (.sl 7 bl8), (.sl 4 bl9)] => f56 G k ai1 ai2 ai3 as4 bl5 bl6 bl7 bl8 bl9 K
  | _ => none
theorem s56 {R : Type} {G : ORC R} {k : Nat} (hG : Sound Try.prog TAB G) (args : List V) (K : List V → Option R) (r : R) (h : g56 G k args K = some r) : ∃ o, CallOK Try.prog TAB.env 56 args o ∧ K o = some r := by
  unfold g56 at h
  split at h
  · rw [← f56_is] at h
    exact callF_sound (f := 56) TAB_chk MO hG Try.func56 (sg := S56) (by kernel_rfl) (by kernel_rfl) (la56 G k) h
  · cases h
end Go.Proofs.Ytdfjodnkplbffaa.Vm
open Go Go.VM
set_option linter.unusedVariables false
set_option maxRecDepth 100000
set_option maxHeartbeats 4000000
namespace Go.Proofs.Ytdfjodnkplbffaa.Vm
/-! ### (*cotillion/code.writer).here: function 84 -/
def L84 {R : Type} (_ : ORC R) (_ : Nat) : Nat → St → (Ex → St → Option R) → Option R := fun _ _ _ => none
def f84 {R : Type} (G : ORC R) (k : Nat) (ai1 : Int) (bl2 bl3 : List V) (bl4 bl5 bl6 : List V) (K : List V → Option R) : Option R :=
  (bif ((decide (0 ≤ ai1)) && (decide (ai1 < ((List.length bl6 : Nat) : Int)))) then (nthK bl6 (Int.toNat ai1) fun e7 => (ca4 e7 fun c8 c9 c10 c11 => (K [(.sl 4 (List.set bl6 (Int.toNat ai1) (.agg [c8, (.int .i64 ((List.length bl6 : Nat) : Int)), c10, c11])))]))) else none)
theorem f84_is {R : Type} (G : ORC R) (k : Nat) (K : List V → Option R) (ai1 : Int) (bl2 bl3 : List V) (bl4 bl5 bl6 : List V) :
    callF (TAB.env 84) G (L84 G k) Try.f84 S84 [(.int .i64 ai1), (.sl 1 bl2), (.sl 1 bl3), (.sl 1 bl4), (.sl 7 bl5), (.sl 4 bl6)] K = f84 G k ai1 bl2 bl3 bl4 bl5 bl6 K := by kernel_rfl
theorem lo84 : loopsOf (bodyOf Try.f84) = [] := by kernel_rfl
theorem la84 {R : Type} (G : ORC R) (k : Nat) : LoopsAre (TAB.env 84) G (L84 G k) (bodyOf Try.f84) :=
  loopsAre_of (by rw [lo84]; intro p hp; cases hp)
def g84 {R : Type} (G : ORC R) (k : Nat) (args : List V) (K : List V → Option R) : Option R := match args with
  | [(.int .i64 ai1), (.sl 1 bl2), (.sl 1 bl3), (.sl 1 bl4), (.sl 7 bl5), (.sl 4 bl6)] => f84 G k ai1 bl2 bl3 bl4 bl5 bl6 K
  | _ => none
theorem s84 {R : Type} {G : ORC R} {k : Nat} (hG : Sound Try.prog TAB G) (args : List V) (K : List V → Option R) (r : R) (h : g84 G k args K = some r) : ∃ o, CallOK Try.prog TAB.env 84 args o ∧ K o = some r := by
  unfold g84 at h
  split at h
  · rw [← f84_is] at h
    exact callF_sound (f := 84) TAB_chk MO hG Try.func84 (sg := S84) (by kernel_rfl) (by kernel_rfl) (la84 G k) h
  · cases h
end Go.Proofs.Ytdfjodnkplbffaa.Vm
open Go Go.VM
set_option linter.unusedVariables false
set_option maxRecDepth 100000
set_option maxHeartbeats 4000000
namespace Go.Proofs.Ytdfjodnkplbffaa.Vm
/-! ### (*cotillion/code.writer).push: function 55 -/
def L55 {R : Type} (_ : ORC R) (_ : Nat) : Nat → St → (Ex → St → Option R) → Option R := fun _ _ _ => none
def f55 {R : Type} (G : ORC R) (k : Nat) (ai1 : Int) (bl2 bl3 : List V) (bl4 bl5 bl6 : List V) (K : List V → Option R) : Option R :=
  (G 56 [(.agg [(.int .i64 1), (.int .i64 0), (.int .i64 ai1), (.str ⟨#[]⟩)]), (.sl 1 bl2), (.sl 1 bl3), (.sl 1 bl4), (.sl 7 bl5), (.sl 4 bl6)] fun o7 => (uI .i64 o7 fun n9 r8 => (uL 4 r8 fun l11 r10 => (unNil r10 (K [(.sl 4 l11)])))))
theorem f55_is {R : Type} (G : ORC R) (k : Nat) (K : List V → Option R) (ai1 : Int) (bl2 bl3 : List V) (bl4 bl5 bl6 : List V) :
    callF (TAB.env 55) G (L55 G k) Try.f55 S55 [(.int .i64 ai1), (.sl 1 bl2), (.sl 1 bl3), (.sl 1 bl4), (.sl 7 bl5), (.sl 4 bl6)] K = f55 G k ai1 bl2 bl3 bl4 bl5 bl6 K := by kernel_rfl
theorem lo55 : loopsOf (bodyOf Try.f55) = [] := by kernel_rfl
theorem la55 {R : Type} (G : ORC R) (k : Nat) : LoopsAre (TAB.env 55) G (L55 G k) (bodyOf Try.f55) :=
  loopsAre_of (by rw [lo55]; intro p hp; cases hp)
def g55 {R : Type} (G : ORC R) (k : Nat) (args : List V) (K : List V → Option R) : Option R := match args with
  | [(.int .i64 ai1), (.sl 1 bl2), (.sl 1 bl3), (.sl 1 bl4), (.sl 7 bl5), (.sl 4 bl6)] => f55 G k ai1 bl2 bl3 bl4 bl5 bl6 K
  | _ => none
theorem s55 {R : Type} {G : ORC R} {k : Nat} (hG : Sound Try.prog TAB G) (args : List V) (K : List V → Option R) (r : R) (h : g55 G k args K = some r) : ∃ o, CallOK Try.prog TAB.env 55 args o ∧ K o = some r := by
  unfold g55 at h
  split at h
  · rw [← f55_is] at h
    exact callF_sound (f := 55) TAB_chk MO hG Try.func55 (sg := S55) (by kernel_rfl) (by kernel_rfl) (la55 G k) h
  · cases h
end Go.Proofs.Ytdfjodnkplbffaa.Vm
open Go Go.VM
set_option linter.unusedVariables false
set_option maxRecDepth 100000
set_option maxHeartbeats 4000000
namespace Go.Proofs.Ytdfjodnkplbffaa.Vm
/-! ### (*cotillion/code.writer).expr: function 41 -/
def P41_1h : Pat := { tmps := unds [.stat (.one (.ptr 0 0) .pt), .undef, .undef, .stat (.one (.ptr 4 0) .pt)] 5 (unds [.var (.sl 5) .ro, .var (.int .i64) .pr, .var (.int .i64) .pr] 60 []), boxes := nons [some [.var (.sl 1) .ro true, .var (.sl 1) .ro true, .var (.sl 1) .ro true, .var (.sl 7) .ro true, .var (.sl 4) (.own true) false], none, none, none, some [.var (.int .i64) .pr false, .var (.int .i64) .pr false, .var .str .pr false, .var (.sl 5) .ro false, .var (.int .i64) .pr false]] 68 [] }
def P41_1x : Pat := { tmps := unds [.stat (.one (.ptr 0 0) .pt), .undef, .undef, .stat (.one (.ptr 4 0) .pt)] 68 [], boxes := nons [some [.var (.sl 1) .ro true, .var (.sl 1) .ro true, .var (.sl 1) .ro true, .var (.sl 7) .ro true, .var (.sl 4) (.own true) false], none, none, none, some [.var (.int .i64) .pr false, .var (.int .i64) .pr false, .var .str .pr false, .var (.sl 5) .ro false, .var (.int .i64) .pr false]] 68 [] }
def b41_1 {R : Type} (G : ORC R) (k : Nat) (X : List V → Int → Int → List V → List V → List V → List V → List V → Int → Int → ByteArray → List V → Int → Option R) (Ko : List V → List V → List V → List V → List V → Int → Int → ByteArray → List V → Int → Option R) (xl38 : List V) (xi39 xi40 : Int) (xl41 xl42 : List V) (xl43 xl44 xl45 : List V) (xi46 xi47 : Int) (xs48 : ByteArray) (xl49 : List V) (xi50 : Int) : Option R :=
  (bif (decide (xi40 < xi39)) then (bif ((decide (0 ≤ xi40)) && (decide (xi40 < ((List.length xl38 : Nat) : Int)))) then (nthK xl38 (Int.toNat xi40) fun e51 => (V.asAgg e51 fun l52 => (ce5 l52 fun c53 c54 c55 c56 c57 => (aI .i64 c53 fun n64 => (aI .i64 c54 fun n65 => (V.asStr c55 fun s66 => (V.asSl c56 fun z67 l68 => (aI .i64 c57 fun n69 => (G 41 [(.agg [(.int .i64 n64), (.int .i64 n65), (.str s66), (.sl z67 l68), (.int .i64 n69)]), (.sl 1 xl41), (.sl 1 xl42), (.sl 1 xl43), (.sl 7 xl44), (.sl 4 xl45)] fun o70 => (uL 4 o70 fun l72 r71 => (unNil r71 (X xl38 xi39 (IntKind.i64.wrap (xi40 + 1)) xl41 xl42 xl43 xl44 l72 xi46 xi47 xs48 xl49 xi50)))))))))))) else none) else (Ko xl41 xl42 xl43 xl44 xl45 xi46 xi47 xs48 xl49 xi50))
def l41_1g {R : Type} (G : ORC R) (k : Nat) (Ko : List V → List V → List V → List V → List V → Int → Int → ByteArray → List V → Int → Option R) : Nat → List V → Int → Int → List V → List V → List V → List V → List V → Int → Int → ByteArray → List V → Int → Option R
  | 0 => fun _ _ _ _ _ _ _ _ _ _ _ _ _ => none
  | j + 1 => b41_1 G k (l41_1g G k Ko j) Ko
def l41_1 {R : Type} (G : ORC R) (k : Nat) (xl38 : List V) (xi39 xi40 : Int) (xl41 xl42 : List V) (xl43 xl44 xl45 : List V) (xi46 xi47 : Int) (xs48 : ByteArray) (xl49 : List V) (xi50 : Int) (Ko : List V → List V → List V → List V → List V → Int → Int → ByteArray → List V → Int → Option R) : Option R := l41_1g G k Ko k xl38 xi39 xi40 xl41 xl42 xl43 xl44 xl45 xi46 xi47 xs48 xl49 xi50
def rd41_1 {R : Type} (G : ORC R) (k : Nat) (K : Ex → St → Option R) (j : Nat) (vs : List V) : Option R := match vs with
  | [(.sl 5 xl38), (.int .i64 xi39), (.int .i64 xi40), (.sl 1 xl41), (.sl 1 xl42), (.sl 1 xl43), (.sl 7 xl44), (.sl 4 xl45), (.int .i64 xi46), (.int .i64 xi47), (.str xs48), (.sl 5 xl49), (.int .i64 xi50)] => l41_1g G k (fun yl112 yl113 yl114 yl115 yl116 yi117 yi118 ys119 yl120 yi121 => K .normal (P41_1x.inst [(.sl 1 yl112), (.sl 1 yl113), (.sl 1 yl114), (.sl 7 yl115), (.sl 4 yl116), (.int .i64 yi117), (.int .i64 yi118), (.str ys119), (.sl 5 yl120), (.int .i64 yi121)])) j xl38 xi39 xi40 xl41 xl42 xl43 xl44 xl45 xi46 xi47 xs48 xl49 xi50
  | _ => none
def L41 {R : Type} (G : ORC R) (k : Nat) : Nat → St → (Ex → St → Option R) → Option R
  | 1, S, K => P41_1h.mat S fun vs => rd41_1 G k K k vs
  | _, _, _ => none
def f41 {R : Type} (G : ORC R) (k : Nat) (ai1 ai2 : Int) (as3 : ByteArray) (al4 : List V) (ai5 : Int) (bl6 bl7 : List V) (bl8 bl9 bl10 : List V) (K : List V → Option R) : Option R :=
  (bif (ai1 == 1) then (G 55 [(.int .i64 ai2), (.sl 1 bl6), (.sl 1 bl7), (.sl 1 bl8), (.sl 7 bl9), (.sl 4 bl10)] fun o11 => (uL 4 o11 fun l13 r12 => (unNil r12 (K [(.sl 4 l13)])))) else (bif (ai1 == 2) then (G 57 [(.sl 1 bl6), (.str as3)] fun o14 => (uI .i64 o14 fun n16 r15 => (unNil r15 (G 56 [(.agg [(.int .i64 2), (.int .i64 n16), (.int .i64 0), (.str ⟨#[]⟩)]), (.sl 1 bl6), (.sl 1 bl7), (.sl 1 bl8), (.sl 7 bl9), (.sl 4 bl10)] fun o17 => (uI .i64 o17 fun n19 r18 => (uL 4 r18 fun l21 r20 => (unNil r20 (K [(.sl 4 l21)])))))))) else (bif (ai1 == 3) then (G 56 [(.agg [(.int .i64 3), (.int .i64 0), (.int .i64 0), (.str ⟨#[]⟩)]), (.sl 1 bl6), (.sl 1 bl7), (.sl 1 bl8), (.sl 7 bl9), (.sl 4 bl10)] fun o22 => (uI .i64 o22 fun n24 r23 => (uL 4 r23 fun l26 r25 => (unNil r25 (K [(.sl 4 l26)]))))) else (bif (ai1 == 4) then (G 58 [(.sl 7 bl9), (.str as3)] fun o27 => (uI .i64 o27 fun n29 r28 => (unNil r28 (G 56 [(.agg [(.int .i64 4), (.int .i64 n29), (.int .i64 0), (.str ⟨#[]⟩)]), (.sl 1 bl6), (.sl 1 bl7), (.sl 1 bl8), (.sl 7 bl9), (.sl 4 bl10)] fun o30 => (uI .i64 o30 fun n32 r31 => (uL 4 r31 fun l34 r33 => (unNil r33 (K [(.sl 4 l34)])))))))) else (bif (ai1 == 18) then (bif (ai1 == 18) then (bif (((List.length al4 : Nat) : Int) == 2) then (G 59 [(.agg [(.int .i64 ai1), (.int .i64 ai2), (.str as3), (.sl 5 al4), (.int .i64 ai5)]), (.sl 1 bl6), (.sl 1 bl7), (.sl 1 bl8), (.sl 7 bl9), (.sl 4 bl10)] fun o35 => (uL 4 o35 fun l37 r36 => (unNil r36 (K [(.sl 4 l37)])))) else (K [(.sl 4 bl10)])) else (l41_1 G k al4 ((List.length al4 : Nat) : Int) 0 bl6 bl7 bl8 bl9 bl10 ai1 ai2 as3 al4 ai5 (fun yl73 yl74 yl75 yl76 yl77 yi78 yi79 ys80 yl81 yi82 => (G 60 [(.int .i64 yi78)] fun o83 => (uI .i64 o83 fun n85 r84 => (unNil r84 (G 56 [(.agg [(.int .i64 n85), (.int .i64 0), (.int .i64 0), (.str ⟨#[]⟩)]), (.sl 1 yl73), (.sl 1 yl74), (.sl 1 yl75), (.sl 7 yl76), (.sl 4 yl77)] fun o86 => (uI .i64 o86 fun n88 r87 => (uL 4 r87 fun l90 r89 => (unNil r89 (K [(.sl 4 l90)]))))))))))) else (bif (ai1 == 19) then (bif (((List.length al4 : Nat) : Int) == 2) then (G 59 [(.agg [(.int .i64 ai1), (.int .i64 ai2), (.str as3), (.sl 5 al4), (.int .i64 ai5)]), (.sl 1 bl6), (.sl 1 bl7), (.sl 1 bl8), (.sl 7 bl9), (.sl 4 bl10)] fun o91 => (uL 4 o91 fun l93 r92 => (unNil r92 (K [(.sl 4 l93)])))) else (K [(.sl 4 bl10)])) else (l41_1 G k al4 ((List.length al4 : Nat) : Int) 0 bl6 bl7 bl8 bl9 bl10 ai1 ai2 as3 al4 ai5 (fun yl94 yl95 yl96 yl97 yl98 yi99 yi100 ys101 yl102 yi103 => (G 60 [(.int .i64 yi99)] fun o104 => (uI .i64 o104 fun n106 r105 => (unNil r105 (G 56 [(.agg [(.int .i64 n106), (.int .i64 0), (.int .i64 0), (.str ⟨#[]⟩)]), (.sl 1 yl94), (.sl 1 yl95), (.sl 1 yl96), (.sl 7 yl97), (.sl 4 yl98)] fun o107 => (uI .i64 o107 fun n109 r108 => (uL 4 r108 fun l111 r110 => (unNil r110 (K [(.sl 4 l111)]))))))))))))))))
noncomputable def D41_1 : LoopD := { id := 1, body := loopAt 1 (bodyOf Try.f41), head := P41_1h, out := P41_1x, ret := default }
theorem l41_1_is {R : Type} (G : ORC R) (k : Nat) (X : List V → Option R) (K : Ex → St → Option R) (xl38 : List V) (xi39 xi40 : Int) (xl41 xl42 : List V) (xl43 xl44 xl45 : List V) (xi46 xi47 : Int) (xs48 : ByteArray) (xl49 : List V) (xi50 : Int) :
    roundOf (TAB.env 41) G (L41 G k) D41_1 X K [(.sl 5 xl38), (.int .i64 xi39), (.int .i64 xi40), (.sl 1 xl41), (.sl 1 xl42), (.sl 1 xl43), (.sl 7 xl44), (.sl 4 xl45), (.int .i64 xi46), (.int .i64 xi47), (.str xs48), (.sl 5 xl49), (.int .i64 xi50)] = b41_1 G k (fun xl38 xi39 xi40 xl41 xl42 xl43 xl44 xl45 xi46 xi47 xs48 xl49 xi50 => X [(.sl 5 xl38), (.int .i64 xi39), (.int .i64 xi40), (.sl 1 xl41), (.sl 1 xl42), (.sl 1 xl43), (.sl 7 xl44), (.sl 4 xl45), (.int .i64 xi46), (.int .i64 xi47), (.str xs48), (.sl 5 xl49), (.int .i64 xi50)]) (fun yl112 yl113 yl114 yl115 yl116 yi117 yi118 ys119 yl120 yi121 => K .normal (P41_1x.inst [(.sl 1 yl112), (.sl 1 yl113), (.sl 1 yl114), (.sl 7 yl115), (.sl 4 yl116), (.int .i64 yi117), (.int .i64 yi118), (.str ys119), (.sl 5 yl120), (.int .i64 yi121)])) xl38 xi39 xi40 xl41 xl42 xl43 xl44 xl45 xi46 xi47 xs48 xl49 xi50 := by kernel_rfl
theorem f41_is {R : Type} (G : ORC R) (k : Nat) (K : List V → Option R) (ai1 ai2 : Int) (as3 : ByteArray) (al4 : List V) (ai5 : Int) (bl6 bl7 : List V) (bl8 bl9 bl10 : List V) :
    callF (TAB.env 41) G (L41 G k) Try.f41 S41 [(.agg [(.int .i64 ai1), (.int .i64 ai2), (.str as3), (.sl 5 al4), (.int .i64 ai5)]), (.sl 1 bl6), (.sl 1 bl7), (.sl 1 bl8), (.sl 7 bl9), (.sl 4 bl10)] K = f41 G k ai1 ai2 as3 al4 ai5 bl6 bl7 bl8 bl9 bl10 K := by kernel_rfl
theorem li41_1 {R : Type} (G : ORC R) (k : Nat) : LoopIs (TAB.env 41) G (L41 G k) 1 (loopAt 1 (bodyOf Try.f41)) :=
  ⟨D41_1, fun j vs K => rd41_1 G k K j vs, k, rfl, rfl, by kernel_rfl, by kernel_rfl, by kernel_rfl, (fun vs K => by unfold rd41_1; dsimp only; split <;> rfl),
    (fun j vs K r h => by
      unfold rd41_1 at h
      dsimp only at h
      split at h
      · rw [l41_1_is]; exact h
      · cases h), (fun S K r h => h)⟩
theorem lo41 : loopsOf (bodyOf Try.f41) = [(1, loopAt 1 (bodyOf Try.f41))] := by kernel_rfl
theorem la41 {R : Type} (G : ORC R) (k : Nat) : LoopsAre (TAB.env 41) G (L41 G k) (bodyOf Try.f41) :=
  loopsAre_of (by rw [lo41]; intro p hp; simp only [List.mem_cons, List.not_mem_nil, or_false] at hp; subst hp; exact li41_1 G k)
def g41 {R : Type} (G : ORC R) (k : Nat) (args : List V) (K : List V → Option R) : Option R := match args with
  | [(.agg [(.int .i64 ai1), (.int .i64 ai2), (.str as3), (.sl 5 al4), (.int .i64 ai5)]), (.sl 1 bl6), (.sl 1 bl7), (.sl 1 bl8), (.sl 7 bl9), (.sl 4 bl10)] => f41 G k ai1 ai2 as3 al4 ai5 bl6 bl7 bl8 bl9 bl10 K
  | _ => none
theorem s41 {R : Type} {G : ORC R} {k : Nat} (hG : Sound Try.prog TAB G) (args : List V) (K : List V → Option R) (r : R) (h : g41 G k args K = some r) : ∃ o, CallOK Try.prog TAB.env 41 args o ∧ K o = some r := by
  unfold g41 at h
  split at h
  · rw [← f41_is] at h
    exact callF_sound (f := 41) TAB_chk MO hG Try.func41 (sg := S41) (by kernel_rfl) (by kernel_rfl) (la41 G k) h
  · cases h
end Go.Proofs.Ytdfjodnkplbffaa.Vm
open Go Go.VM
set_option linter.unusedVariables false
set_option maxRecDepth 100000
set_option maxHeartbeats 4000000
namespace Go.Proofs.Ytdfjodnkplbffaa.Vm
/-! ### (*cotillion/code.writer).both: function 59 -/
def L59 {R : Type} (_ : ORC R) (_ : Nat) : Nat → St → (Ex → St → Option R) → Option R := fun _ _ _ => none
def f59 {R : Type} (G : ORC R) (k : Nat) (ai1 ai2 : Int) (as3 : ByteArray) (al4 : List V) (ai5 : Int) (bl6 bl7 : List V) (bl8 bl9 bl10 : List V) (K : List V → Option R) : Option R :=
  (bif (decide (0 < ((List.length al4 : Nat) : Int))) then (nthK al4 0 fun e11 => (V.asAgg e11 fun l12 => (G 41 [(.agg l12), (.sl 1 bl6), (.sl 1 bl7), (.sl 1 bl8), (.sl 7 bl9), (.sl 4 bl10)] fun o13 => (uL 4 o13 fun l15 r14 => (unNil r14 (G 56 [(.agg [(.int .i64 24), (.int .i64 0), (.int .i64 0), (.str ⟨#[]⟩)]), (.sl 1 bl6), (.sl 1 bl7), (.sl 1 bl8), (.sl 7 bl9), (.sl 4 l15)] fun o16 => (uI .i64 o16 fun n18 r17 => (uL 4 r17 fun l20 r19 => (unNil r19 (bif (ai1 == 18) then (bif (decide (1 < ((List.length al4 : Nat) : Int))) then (nthK al4 1 fun e21 => (V.asAgg e21 fun l22 => (G 41 [(.agg l22), (.sl 1 bl6), (.sl 1 bl7), (.sl 1 bl8), (.sl 7 bl9), (.sl 4 l20)] fun o23 => (uL 4 o23 fun l25 r24 => (unNil r24 (G 56 [(.agg [(.int .i64 24), (.int .i64 0), (.int .i64 0), (.str ⟨#[]⟩)]), (.sl 1 bl6), (.sl 1 bl7), (.sl 1 bl8), (.sl 7 bl9), (.sl 4 l25)] fun o26 => (uI .i64 o26 fun n28 r27 => (uL 4 r27 fun l30 r29 => (unNil r29 (G 55 [(.int .i64 1), (.sl 1 bl6), (.sl 1 bl7), (.sl 1 bl8), (.sl 7 bl9), (.sl 4 l30)] fun o31 => (uL 4 o31 fun l33 r32 => (unNil r32 (G 56 [(.agg [(.int .i64 23), (.int .i64 0), (.int .i64 0), (.str ⟨#[]⟩)]), (.sl 1 bl6), (.sl 1 bl7), (.sl 1 bl8), (.sl 7 bl9), (.sl 4 l33)] fun o34 => (uI .i64 o34 fun n36 r35 => (uL 4 r35 fun l38 r37 => (unNil r37 (G 84 [(.int .i64 n18), (.sl 1 bl6), (.sl 1 bl7), (.sl 1 bl8), (.sl 7 bl9), (.sl 4 l38)] fun o39 => (uL 4 o39 fun l41 r40 => (unNil r40 (G 84 [(.int .i64 n28), (.sl 1 bl6), (.sl 1 bl7), (.sl 1 bl8), (.sl 7 bl9), (.sl 4 l41)] fun o42 => (uL 4 o42 fun l44 r43 => (unNil r43 (G 55 [(.int .i64 0), (.sl 1 bl6), (.sl 1 bl7), (.sl 1 bl8), (.sl 7 bl9), (.sl 4 l44)] fun o45 => (uL 4 o45 fun l47 r46 => (unNil r46 (G 84 [(.int .i64 n36), (.sl 1 bl6), (.sl 1 bl7), (.sl 1 bl8), (.sl 7 bl9), (.sl 4 l47)] fun o48 => (uL 4 o48 fun l50 r49 => (unNil r49 (K [(.sl 4 l50)]))))))))))))))))))))))))))))) else none) else (G 55 [(.int .i64 1), (.sl 1 bl6), (.sl 1 bl7), (.sl 1 bl8), (.sl 7 bl9), (.sl 4 l20)] fun o51 => (uL 4 o51 fun l53 r52 => (unNil r52 (G 56 [(.agg [(.int .i64 23), (.int .i64 0), (.int .i64 0), (.str ⟨#[]⟩)]), (.sl 1 bl6), (.sl 1 bl7), (.sl 1 bl8), (.sl 7 bl9), (.sl 4 l53)] fun o54 => (uI .i64 o54 fun n56 r55 => (uL 4 r55 fun l58 r57 => (unNil r57 (G 84 [(.int .i64 n18), (.sl 1 bl6), (.sl 1 bl7), (.sl 1 bl8), (.sl 7 bl9), (.sl 4 l58)] fun o59 => (uL 4 o59 fun l61 r60 => (unNil r60 (bif (decide (1 < ((List.length al4 : Nat) : Int))) then (nthK al4 1 fun e62 => (V.asAgg e62 fun l63 => (G 41 [(.agg l63), (.sl 1 bl6), (.sl 1 bl7), (.sl 1 bl8), (.sl 7 bl9), (.sl 4 l61)] fun o64 => (uL 4 o64 fun l66 r65 => (unNil r65 (G 56 [(.agg [(.int .i64 24), (.int .i64 0), (.int .i64 0), (.str ⟨#[]⟩)]), (.sl 1 bl6), (.sl 1 bl7), (.sl 1 bl8), (.sl 7 bl9), (.sl 4 l66)] fun o67 => (uI .i64 o67 fun n69 r68 => (uL 4 r68 fun l71 r70 => (unNil r70 (G 55 [(.int .i64 1), (.sl 1 bl6), (.sl 1 bl7), (.sl 1 bl8), (.sl 7 bl9), (.sl 4 l71)] fun o72 => (uL 4 o72 fun l74 r73 => (unNil r73 (G 56 [(.agg [(.int .i64 23), (.int .i64 0), (.int .i64 0), (.str ⟨#[]⟩)]), (.sl 1 bl6), (.sl 1 bl7), (.sl 1 bl8), (.sl 7 bl9), (.sl 4 l74)] fun o75 => (uI .i64 o75 fun n77 r76 => (uL 4 r76 fun l79 r78 => (unNil r78 (G 84 [(.int .i64 n69), (.sl 1 bl6), (.sl 1 bl7), (.sl 1 bl8), (.sl 7 bl9), (.sl 4 l79)] fun o80 => (uL 4 o80 fun l82 r81 => (unNil r81 (G 55 [(.int .i64 0), (.sl 1 bl6), (.sl 1 bl7), (.sl 1 bl8), (.sl 7 bl9), (.sl 4 l82)] fun o83 => (uL 4 o83 fun l85 r84 => (unNil r84 (G 84 [(.int .i64 n56), (.sl 1 bl6), (.sl 1 bl7), (.sl 1 bl8), (.sl 7 bl9), (.sl 4 l85)] fun o86 => (uL 4 o86 fun l88 r87 => (unNil r87 (G 84 [(.int .i64 n77), (.sl 1 bl6), (.sl 1 bl7), (.sl 1 bl8), (.sl 7 bl9), (.sl 4 l88)] fun o89 => (uL 4 o89 fun l91 r90 => (unNil r90 (K [(.sl 4 l91)]))))))))))))))))))))))))))))) else none))))))))))))))))))))) else none)
theorem f59_is {R : Type} (G : ORC R) (k : Nat) (K : List V → Option R) (ai1 ai2 : Int) (as3 : ByteArray) (al4 : List V) (ai5 : Int) (bl6 bl7 : List V) (bl8 bl9 bl10 : List V) :
    callF (TAB.env 59) G (L59 G k) Try.f59 S59 [(.agg [(.int .i64 ai1), (.int .i64 ai2), (.str as3), (.sl 5 al4), (.int .i64 ai5)]), (.sl 1 bl6), (.sl 1 bl7), (.sl 1 bl8), (.sl 7 bl9), (.sl 4 bl10)] K = f59 G k ai1 ai2 as3 al4 ai5 bl6 bl7 bl8 bl9 bl10 K := by kernel_rfl
theorem lo59 : loopsOf (bodyOf Try.f59) = [] := by kernel_rfl
theorem la59 {R : Type} (G : ORC R) (k : Nat) : LoopsAre (TAB.env 59) G (L59 G k) (bodyOf Try.f59) :=
  loopsAre_of (by rw [lo59]; intro p hp; cases hp)
def g59 {R : Type} (G : ORC R) (k : Nat) (args : List V) (K : List V → Option R) : Option R := match args with
  | [(.agg [(.int .i64 ai1), (.int .i64 ai2), (.str as3), (.sl 5 al4), (.int .i64 ai5)]), (.sl 1 bl6), (.sl 1 bl7), (.sl 1 bl8), (.sl 7 bl9), (.sl 4 bl10)] => f59 G k ai1 ai2 as3 al4 ai5 bl6 bl7 bl8 bl9 bl10 K
  | _ => none
theorem s59 {R : Type} {G : ORC R} {k : Nat} (hG : Sound Try.prog TAB G) (args : List V) (K : List V → Option R) (r : R) (h : g59 G k args K = some r) : ∃ o, CallOK Try.prog TAB.env 59 args o ∧ K o = some r := by
  unfold g59 at h
  split at h
  · rw [← f59_is] at h
    exact callF_sound (f := 59) TAB_chk MO hG Try.func59 (sg := S59) (by kernel_rfl) (by kernel_rfl) (la59 G k) h
  · cases h
end Go.Proofs.Ytdfjodnkplbffaa.Vm
open Go Go.VM
set_option linter.unusedVariables false
set_option maxRecDepth 100000
set_option maxHeartbeats 4000000
namespace Go.Proofs.Ytdfjodnkplbffaa.Vm
/-! ### cotillion/code.op: function 60 -/
def L60 {R : Type} (_ : ORC R) (_ : Nat) : Nat → St → (Ex → St → Option R) → Option R := fun _ _ _ => none
def f60 {R : Type} (G : ORC R) (k : Nat) (ai1 : Int) (K : List V → Option R) : Option R :=
  (bif (ai1 == 5) then (K [(.int .i64 5)]) else (bif (ai1 == 6) then (K [(.int .i64 6)]) else (bif (ai1 == 7) then (K [(.int .i64 7)]) else (bif (ai1 == 8) then (K [(.int .i64 8)]) else (bif (ai1 == 9) then (K [(.int .i64 9)]) else (bif (ai1 == 10) then (K [(.int .i64 10)]) else (bif (ai1 == 11) then (K [(.int .i64 11)]) else (bif (ai1 == 12) then (K [(.int .i64 12)]) else (bif (ai1 == 13) then (K [(.int .i64 13)]) else (bif (ai1 == 14) then (K [(.int .i64 14)]) else (bif (ai1 == 15) then (K [(.int .i64 15)]) else (bif (ai1 == 16) then (K [(.int .i64 16)]) else (K [(.int .i64 17)])))))))))))))
theorem f60_is {R : Type} (G : ORC R) (k : Nat) (K : List V → Option R) (ai1 : Int) :
    callF (TAB.env 60) G (L60 G k) Try.f60 S60 [(.int .i64 ai1)] K = f60 G k ai1 K := by kernel_rfl
theorem lo60 : loopsOf (bodyOf Try.f60) = [] := by kernel_rfl
theorem la60 {R : Type} (G : ORC R) (k : Nat) : LoopsAre (TAB.env 60) G (L60 G k) (bodyOf Try.f60) :=
  loopsAre_of (by rw [lo60]; intro p hp; cases hp)
def g60 {R : Type} (G : ORC R) (k : Nat) (args : List V) (K : List V → Option R) : Option R := match args with
  | [(.int .i64 ai1)] => f60 G k ai1 K
  | _ => none
theorem s60 {R : Type} {G : ORC R} {k : Nat} (hG : Sound Try.prog TAB G) (args : List V) (K : List V → Option R) (r : R) (h : g60 G k args K = some r) : ∃ o, CallOK Try.prog TAB.env 60 args o ∧ K o = some r := by
  unfold g60 at h
  split at h
  · rw [← f60_is] at h
    exact callF_sound (f := 60) TAB_chk MO hG Try.func60 (sg := S60) (by kernel_rfl) (by kernel_rfl) (la60 G k) h
  · cases h
end Go.Proofs.Ytdfjodnkplbffaa.Vm
open Go Go.VM
set_option linter.unusedVariables false
set_option maxRecDepth 100000
set_option maxHeartbeats 4000000
namespace Go.Proofs.Ytdfjodnkplbffaa.Vm
/-! ### slices.Index[[]string,string]: function 57 -/
def P57_0h : Pat := { tmps := unds [.var (.sl 1) .ro, .var .str .pr] 5 (unds [.var (.int .i64) .pr, .var (.int .i64) .pr] 10 []), boxes := nons [] 19 [] }
def P57_0x : Pat := { tmps := unds [] 19 [], boxes := nons [] 19 [] }
def P57_0r : Pat := { tmps := unds [.undef, .undef, .undef, .undef, .var (.int .i64) .pr] 14 [], boxes := nons [] 19 [] }
def b57_0 {R : Type} (G : ORC R) (k : Nat) (X : List V → ByteArray → Int → Int → Option R) (Ko : Unit → Option R) (Kr : Int → Option R) (xl3 : List V) (xs4 : ByteArray) (xi5 xi6 : Int) : Option R :=
  (bif (decide (xi6 < xi5)) then (bif ((decide (0 ≤ xi6)) && (decide (xi6 < ((List.length xl3 : Nat) : Int)))) then (nthK xl3 (Int.toNat xi6) fun e7 => (V.asStr e7 fun s8 => (bif (ByteArray.toList xs4 == ByteArray.toList s8) then (Kr xi6) else (X xl3 xs4 xi5 (IntKind.i64.wrap (xi6 + 1)))))) else none) else (Ko ()))
def l57_0g {R : Type} (G : ORC R) (k : Nat) (Ko : Unit → Option R) (Kr : Int → Option R) : Nat → List V → ByteArray → Int → Int → Option R
  | 0 => fun _ _ _ _ => none
  | j + 1 => b57_0 G k (l57_0g G k Ko Kr j) Ko Kr
def l57_0 {R : Type} (G : ORC R) (k : Nat) (xl3 : List V) (xs4 : ByteArray) (xi5 xi6 : Int) (Ko : Unit → Option R) (Kr : Int → Option R) : Option R := l57_0g G k Ko Kr k xl3 xs4 xi5 xi6
def rd57_0 {R : Type} (G : ORC R) (k : Nat) (K : Ex → St → Option R) (j : Nat) (vs : List V) : Option R := match vs with
  | [(.sl 1 xl3), (.str xs4), (.int .i64 xi5), (.int .i64 xi6)] => l57_0g G k (fun _ => K .normal (P57_0x.inst [])) (fun yi10 => K .ret (P57_0r.inst [(.int .i64 yi10)])) j xl3 xs4 xi5 xi6
  | _ => none
def L57 {R : Type} (G : ORC R) (k : Nat) : Nat → St → (Ex → St → Option R) → Option R
  | 0, S, K => P57_0h.mat S fun vs => rd57_0 G k K k vs
  | _, _, _ => none
def f57 {R : Type} (G : ORC R) (k : Nat) (al1 : List V) (as2 : ByteArray) (K : List V → Option R) : Option R :=
  (l57_0 G k al1 as2 ((List.length al1 : Nat) : Int) 0 (fun (_ : Unit) => (K [(.int .i64 (-1))])) (fun yi9 => (K [(.int .i64 yi9)])))
noncomputable def D57_0 : LoopD := { id := 0, body := loopAt 0 (bodyOf Try.f57), head := P57_0h, out := P57_0x, ret := P57_0r }
theorem l57_0_is {R : Type} (G : ORC R) (k : Nat) (X : List V → Option R) (K : Ex → St → Option R) (xl3 : List V) (xs4 : ByteArray) (xi5 xi6 : Int) :
    roundOf (TAB.env 57) G (L57 G k) D57_0 X K [(.sl 1 xl3), (.str xs4), (.int .i64 xi5), (.int .i64 xi6)] = b57_0 G k (fun xl3 xs4 xi5 xi6 => X [(.sl 1 xl3), (.str xs4), (.int .i64 xi5), (.int .i64 xi6)]) (fun _ => K .normal (P57_0x.inst [])) (fun yi10 => K .ret (P57_0r.inst [(.int .i64 yi10)])) xl3 xs4 xi5 xi6 := by kernel_rfl
theorem f57_is {R : Type} (G : ORC R) (k : Nat) (K : List V → Option R) (al1 : List V) (as2 : ByteArray) :
    callF (TAB.env 57) G (L57 G k) Try.f57 S57 [(.sl 1 al1), (.str as2)] K = f57 G k al1 as2 K := by kernel_rfl
theorem li57_0 {R : Type} (G : ORC R) (k : Nat) : LoopIs (TAB.env 57) G (L57 G k) 0 (loopAt 0 (bodyOf Try.f57)) :=
  ⟨D57_0, fun j vs K => rd57_0 G k K j vs, k, rfl, rfl, by kernel_rfl, by kernel_rfl, by kernel_rfl, (fun vs K => by unfold rd57_0; dsimp only; split <;> rfl),
    (fun j vs K r h => by
      unfold rd57_0 at h
      dsimp only at h
      split at h
      · rw [l57_0_is]; exact h
      · cases h), (fun S K r h => h)⟩
theorem lo57 : loopsOf (bodyOf Try.f57) = [(0, loopAt 0 (bodyOf Try.f57))] := by kernel_rfl
theorem la57 {R : Type} (G : ORC R) (k : Nat) : LoopsAre (TAB.env 57) G (L57 G k) (bodyOf Try.f57) :=
  loopsAre_of (by rw [lo57]; intro p hp; simp only [List.mem_cons, List.not_mem_nil, or_false] at hp; subst hp; exact li57_0 G k)
def g57 {R : Type} (G : ORC R) (k : Nat) (args : List V) (K : List V → Option R) : Option R := match args with
  | [(.sl 1 al1), (.str as2)] => f57 G k al1 as2 K
  | _ => none
theorem s57 {R : Type} {G : ORC R} {k : Nat} (hG : Sound Try.prog TAB G) (args : List V) (K : List V → Option R) (r : R) (h : g57 G k args K = some r) : ∃ o, CallOK Try.prog TAB.env 57 args o ∧ K o = some r := by
  unfold g57 at h
  split at h
  · rw [← f57_is] at h
    exact callF_sound (f := 57) TAB_chk MO hG Try.func57 (sg := S57) (by kernel_rfl) (by kernel_rfl) (la57 G k) h
  · cases h
end Go.Proofs.Ytdfjodnkplbffaa.Vm
open Go Go.VM
set_option linter.unusedVariables false
set_option linter.unusedSimpArgs false
set_option maxRecDepth 100000
set_option maxHeartbeats 8000000
namespace Go.Proofs.Ytdfjodnkplbffaa.Vm
section
variable {R : Type} {G : ORC R} {k : Nat} {K : List V → Option R}
/-- The writer's cells. -/
def wr (N : Nms) (c : List V) : List V := [.sl 1 N.a, .sl 1 N.p, .sl 1 N.t, .sl 7 (N.nd.map Nd.v), .sl 4 c]
def PutX (G : ORC R) : Prop := ∀ (op a n : Int) (s : ByteArray) (N : Nms) (c : List V) (K : List V → Option R), c.length ≤ 2000000 → W (fun o => o = [.int .i64 c.length, .sl 4 (c ++ [insS op a n s])]) K (G 56 (insS op a n s :: wr N c) K)
theorem putx_ok : PutX (fun _ args (K : List V → Option R) => g56 G k args K) := by
  intro op a n s N c K hc
  show W _ K (f56 G k op a n s N.a N.p N.t (N.nd.map Nd.v) c K)
  unfold f56
  refine W_yes (by omega) (W_ret ?_)
  rw [List.length_append, List.length_singleton, wrap_id (by omega), show (((c.length + 1 : Nat) : Int) - 1) = c.length by omega]; rfl
def HereX (G : ORC R) : Prop := ∀ (L Q : List V) (op a n : Int) (s : ByteArray) (i : Int) (N : Nms) (K : List V → Option R), i = L.length → W (fun o => o = [.sl 4 (L ++ insS op (L.length + 1 + Q.length : Nat) n s :: Q)]) K (G 84 (.int .i64 i :: wr N (L ++ insS op a n s :: Q)) K)
theorem herex_ok : HereX (fun _ args (K : List V → Option R) => g84 G k args K) := by
  intro L Q op a n s i N K hi
  show W _ K (f84 G k i N.a N.p N.t (N.nd.map Nd.v) (L ++ insS op a n s :: Q) K)
  unfold f84
  subst hi
  refine W_at (by omega) (get_at (by omega)) (W_ca4 ?_)
  rw [set_at (by omega)]
  refine W_ret ?_
  have : (L ++ insS op a n s :: Q).length = L.length + 1 + Q.length := by simp; omega
  rw [this]; rfl
def PushX (G : ORC R) : Prop := ∀ (n : Int) (N : Nms) (c : List V) (K : List V → Option R), c.length ≤ 2000000 → W (fun o => o = [.sl 4 (c ++ [ins 1 0 n])]) K (G 55 (.int .i64 n :: wr N c) K)
theorem pushx_ok (hP : PutX G) : PushX (fun _ args (K : List V → Option R) => g55 G k args K) := by
  intro n N c K hc
  show W _ K (f55 G k n N.a N.p N.t (N.nd.map Nd.v) c K)
  unfold f55
  unfold PutX at hP
  refine W_call (hP 1 0 n ⟨#[]⟩ N c _ hc) ?_
  rintro _ rfl
  (repeat (with_reducible (first | (refine W_uI ?_) | (refine W_uS ?_) | (refine W_uL ?_) | (refine W_uA ?_) | (refine W_uB ?_) | (refine W_aI ?_) | (refine W_aL ?_) | (refine W_ca3 ?_) | (refine W_ce3 ?_) | (refine W_ca4 ?_) | (refine W_ce4 ?_) | (refine W_ca5 ?_) | (refine W_ce5 ?_) | (refine W_ca6 ?_) | (refine W_ce6 ?_) | (refine W_ca7 ?_) | (refine W_ce7 ?_) | (refine W_ca8 ?_) | (refine W_ce8 ?_) | (refine W_nd7 ?_) | (refine W_unCons ?_) | (refine W_unNil ?_) | (refine W_asInt ?_) | (refine W_asBool ?_) | (refine W_asStr ?_) | (refine W_asSl ?_) | (refine W_asAgg ?_) | (refine W_kd ?_) | (refine W_z ?_))))
  exact W_ret rfl
theorem sx_loop {Q : List V → Prop} {K : List V → Option R} {Ko : Unit → Option R} {Kr : Int → Option R} {l : List V} {s : ByteArray} (hl : StrsS 100 l) (hKo : plN l s = -1 → W Q K (Ko ())) (hKr : ∀ i, plN l s = i → W Q K (Kr i)) :
    ∀ (j m : Nat), l.length - m < j → m ≤ l.length → (∀ j t, j < m → l[j]? = some (.str t) → t.toList ≠ s.toList) → W Q K (l57_0g G k Ko Kr j l s l.length m)
  | 0, m, h1, h2, h3 => by omega
  | j + 1, m, h1, h2, h3 => by
    show W Q K (b57_0 G k (l57_0g G k Ko Kr j) Ko Kr l s l.length m)
    unfold b57_0
    have hll := hl.1
    refine W_dec (fun h => ?_) (fun h => hKo (pl_none hl (by rw [show l.length = m by omega]; exact h3)))
    obtain ⟨v, hv⟩ : ∃ v, l[m]? = some v := ⟨_, List.getElem?_eq_getElem (by omega)⟩
    obtain ⟨t, rfl, ht⟩ := hl.2 v (List.mem_of_getElem? hv)
    refine W_at (by omega) (by rw [Int.toNat_natCast]; exact hv) (W_asStr (W_bool (fun he => hKr m (pl_hit hl h3 hv (by simpa using (Eq.symm (by simpa using he)))))  (fun he => ?_)))
    rw [wrap_id (n := (m : Int) + 1) (by omega)]
    refine sx_loop hl hKo hKr j (m + 1) (by omega) (by omega) (fun i u hi hu => ?_)
    by_cases e : i = m
    · subst e; rw [hv] at hu; cases hu; intro c; rw [c] at he; simp at he
    · exact h3 i u (by omega) hu
theorem six_ok (hk : 10000 ≤ k) : PlX 57 (fun _ args (K : List V → Option R) => g57 G k args K) := by
  intro l s K hl
  show W _ K (f57 G k l s K)
  unfold f57 l57_0
  have hll := hl.1
  exact sx_loop (Q := fun o => o = [.int .i64 (plN l s)]) (K := K) hl (fun e => W_ret (by rw [e])) (fun i e => W_ret (by rw [e])) k 0 (by omega) (by omega) (fun j t h => by omega)
theorem copx_ok : OpX 60 (fun _ args (K : List V → Option R) => g60 G k args K) := by
  intro n K h1 h2
  show W _ K (f60 G k n K)
  unfold f60
  refine W_beqI (fun e => W_ret (by rw [e])) (fun _ => ?_)
  refine W_beqI (fun e => W_ret (by rw [e])) (fun _ => ?_)
  refine W_beqI (fun e => W_ret (by rw [e])) (fun _ => ?_)
  refine W_beqI (fun e => W_ret (by rw [e])) (fun _ => ?_)
  refine W_beqI (fun e => W_ret (by rw [e])) (fun _ => ?_)
  refine W_beqI (fun e => W_ret (by rw [e])) (fun _ => ?_)
  refine W_beqI (fun e => W_ret (by rw [e])) (fun _ => ?_)
  refine W_beqI (fun e => W_ret (by rw [e])) (fun _ => ?_)
  refine W_beqI (fun e => W_ret (by rw [e])) (fun _ => ?_)
  refine W_beqI (fun e => W_ret (by rw [e])) (fun _ => ?_)
  refine W_beqI (fun e => W_ret (by rw [e])) (fun _ => ?_)
  refine W_beqI (fun e => W_ret (by rw [e])) (fun _ => ?_)
  exact W_ret (by rw [show n = 17 by omega])
end
end Go.Proofs.Ytdfjodnkplbffaa.Vm
open Go Go.VM
set_option linter.unusedVariables false
set_option linter.unusedSimpArgs false
set_option maxRecDepth 100000
set_option maxHeartbeats 8000000
namespace Go.Proofs.Ytdfjodnkplbffaa.Vm
section
variable {R : Type} {G : ORC R} {k : Nat} {K : List V → Option R}
def CX (d : Nat) (G : ORC R) : Prop := ∀ (c : List V) (e : V) (N : Nms) (K : List V → Option R), ExprS d e → N.ok → c.length + ce d ≤ 1000000 → W (fun o => o = [.sl 4 (c ++ cE N d c.length e)]) K (G 41 (e :: wr N c) K)
def CBX (d : Nat) (G : ORC R) : Prop := ∀ (c : List V) (kind n x : Int) (nm : ByteArray) (a b : V) (N : Nms) (K : List V → Option R), kind = 18 ∨ kind = 19 → ExprS d a → ExprS d b → N.ok → c.length + ce (d + 1) ≤ 1000000 →
  W (fun o => o = [.sl 4 (c ++ if kind = 18 then andX c.length (cE N d c.length a) (cE N d (c.length + (cE N d c.length a).length + 1) b) else orX c.length (cE N d c.length a) (cE N d (c.length + (cE N d c.length a).length + 3) b))]) K
    (G 59 (.agg [.int .i64 kind, .int .i64 n, .str nm, .sl 5 [a, b], .int .i64 x] :: wr N c) K)
theorem bothx_ok {d : Nat} (hP : PutX G) (hH : HereX G) (hPu : PushX G) (hE : CX d G) : CBX d (fun _ args (K : List V → Option R) => g59 G k args K) := by
  intro c kind n x nm a b N K hk ha hb hN hm
  show W _ K (f59 G k kind n nm [a, b] x N.a N.p N.t (N.nd.map Nd.v) c K)
  unfold f59
  have hce : ce (d + 1) = 2 * ce d + 8 := rfl
  unfold CX at hE; unfold PutX at hP; unfold HereX at hH; unfold PushX at hPu
  cases d with
  | zero => exact ha.elim
  | succ d =>
  have l0 := cE_len (N := N) (at_ := c.length) ha
  have l1 := fun q => cE_len (N := N) (at_ := q) hb
  have ha' := ha
  have hb' := hb
  obtain ⟨_, _, _, _, rfl, _⟩ := ha
  obtain ⟨_, _, _, _, rfl, _⟩ := hb
  refine W_yes (by simp) (W_nth0 (W_asAgg ?_))
  refine W_call (hE c _ N _ ha' hN (by omega)) ?_
  rintro _ rfl
  generalize hE0 : cE N (d + 1) c.length _ = E0 at l0 ⊢
  refine W_uL (W_unNil ?_)
  refine W_call (hP 24 0 0 ⟨#[]⟩ N _ _ (by (first | (simp only [List.length_append, List.length_cons, List.length_nil]; done) | (simp only [List.length_append, List.length_cons, List.length_nil]; omega)))) ?_
  rintro _ rfl
  refine W_uI (W_uL (W_unNil ?_))
  refine W_beqI (fun h18 => ?_) (fun h18 => ?_)
  · rw [if_pos h18]
    refine W_yes (by simp) (W_nth1 (W_asAgg ?_))
    refine W_call (hE _ _ N _ hb' hN (by (first | (simp only [List.length_append, List.length_cons, List.length_nil]; done) | (simp only [List.length_append, List.length_cons, List.length_nil]; omega)))) ?_
    rintro _ rfl
    have hl : (c ++ E0 ++ [insS 24 0 0 ⟨#[]⟩]).length = c.length + E0.length + 1 := by (first | (simp only [List.length_append, List.length_cons, List.length_nil]; done) | (simp only [List.length_append, List.length_cons, List.length_nil]; omega))
    rw [hl]
    have l1 := l1 (c.length + E0.length + 1)
    generalize hE1 : cE N (d + 1) (c.length + E0.length + 1) _ = E1 at l1 ⊢
    refine W_uL (W_unNil ?_)
    refine W_call (hP 24 0 0 ⟨#[]⟩ N _ _ (by (first | (simp only [List.length_append, List.length_cons, List.length_nil]; done) | (simp only [List.length_append, List.length_cons, List.length_nil]; omega)))) ?_
    rintro _ rfl
    refine W_uI (W_uL (W_unNil ?_))
    refine W_call (hPu 1 N _ _ (by (first | (simp only [List.length_append, List.length_cons, List.length_nil]; done) | (simp only [List.length_append, List.length_cons, List.length_nil]; omega)))) ?_
    rintro _ rfl
    refine W_uL (W_unNil ?_)
    refine W_call (hP 23 0 0 ⟨#[]⟩ N _ _ (by (first | (simp only [List.length_append, List.length_cons, List.length_nil]; done) | (simp only [List.length_append, List.length_cons, List.length_nil]; omega)))) ?_
    rintro _ rfl
    refine W_uI (W_uL (W_unNil ?_))
    have e1 : c ++ E0 ++ [insS 24 0 0 ⟨#[]⟩] ++ E1 ++ [insS 24 0 0 ⟨#[]⟩] ++ [ins 1 0 1] ++ [insS 23 0 0 ⟨#[]⟩] = (c ++ E0) ++ insS 24 0 0 ⟨#[]⟩ :: (E1 ++ [insS 24 0 0 ⟨#[]⟩, ins 1 0 1, insS 23 0 0 ⟨#[]⟩]) := by simp
    rw [e1]
    refine W_call (hH (c ++ E0) _ 24 0 0 ⟨#[]⟩ _ N _ rfl) ?_
    rintro _ rfl
    refine W_uL (W_unNil ?_)
    have e2 : ∀ z : V, (c ++ E0) ++ z :: (E1 ++ [insS 24 0 0 ⟨#[]⟩, ins 1 0 1, insS 23 0 0 ⟨#[]⟩]) = (c ++ E0 ++ z :: E1) ++ insS 24 0 0 ⟨#[]⟩ :: [ins 1 0 1, insS 23 0 0 ⟨#[]⟩] := fun z => by simp
    rw [e2]
    refine W_call (hH (c ++ E0 ++ _ :: E1) _ 24 0 0 ⟨#[]⟩ _ N _ (by (first | (simp only [List.length_append, List.length_cons, List.length_nil]; done) | (simp only [List.length_append, List.length_cons, List.length_nil]; omega)))) ?_
    rintro _ rfl
    refine W_uL (W_unNil ?_)
    refine W_call (hPu 0 N _ _ (by (first | (simp only [List.length_append, List.length_cons, List.length_nil]; done) | (simp only [List.length_append, List.length_cons, List.length_nil]; omega)))) ?_
    rintro _ rfl
    refine W_uL (W_unNil ?_)
    have e3 : ∀ z y w : V, (c ++ E0 ++ z :: E1) ++ y :: [ins 1 0 1, insS 23 0 0 ⟨#[]⟩] ++ [w] = (c ++ E0 ++ z :: E1 ++ [y, ins 1 0 1]) ++ insS 23 0 0 ⟨#[]⟩ :: [w] := fun z y w => by simp
    rw [e3]
    refine W_call (hH (c ++ E0 ++ _ :: E1 ++ [_, ins 1 0 1]) _ 23 0 0 ⟨#[]⟩ _ N _ (by (first | (simp only [List.length_append, List.length_cons, List.length_nil]; done) | (simp only [List.length_append, List.length_cons, List.length_nil]; omega)))) ?_
    rintro _ rfl
    refine W_uL (W_unNil (W_ret ?_))
    simp [andX, ins, insS]
    omega
  · rw [if_neg h18]
    refine W_call (hPu 1 N _ _ (by (first | (simp only [List.length_append, List.length_cons, List.length_nil]; done) | (simp only [List.length_append, List.length_cons, List.length_nil]; omega)))) ?_
    rintro _ rfl
    refine W_uL (W_unNil ?_)
    refine W_call (hP 23 0 0 ⟨#[]⟩ N _ _ (by (first | (simp only [List.length_append, List.length_cons, List.length_nil]; done) | (simp only [List.length_append, List.length_cons, List.length_nil]; omega)))) ?_
    rintro _ rfl
    refine W_uI (W_uL (W_unNil ?_))
    have e1 : c ++ E0 ++ [insS 24 0 0 ⟨#[]⟩] ++ [ins 1 0 1] ++ [insS 23 0 0 ⟨#[]⟩] = (c ++ E0) ++ insS 24 0 0 ⟨#[]⟩ :: [ins 1 0 1, insS 23 0 0 ⟨#[]⟩] := by simp
    rw [e1]
    refine W_call (hH (c ++ E0) _ 24 0 0 ⟨#[]⟩ _ N _ rfl) ?_
    rintro _ rfl
    refine W_uL (W_unNil (W_yes (by simp) (W_nth1 (W_asAgg ?_))))
    have hl : ∀ z : V, (c ++ E0 ++ z :: [ins 1 0 1, insS 23 0 0 ⟨#[]⟩]).length = c.length + E0.length + 3 := fun z => by (first | (simp only [List.length_append, List.length_cons, List.length_nil]; done) | (simp only [List.length_append, List.length_cons, List.length_nil]; omega))
    refine W_call (hE _ _ N _ hb' hN (by rw [hl]; omega)) ?_
    rintro _ rfl
    rw [hl]
    have l1 := l1 (c.length + E0.length + 3)
    generalize hE1 : cE N (d + 1) (c.length + E0.length + 3) _ = E1 at l1 ⊢
    refine W_uL (W_unNil ?_)
    refine W_call (hP 24 0 0 ⟨#[]⟩ N _ _ (by (first | (simp only [List.length_append, List.length_cons, List.length_nil]; done) | (simp only [List.length_append, List.length_cons, List.length_nil]; omega)))) ?_
    rintro _ rfl
    refine W_uI (W_uL (W_unNil ?_))
    refine W_call (hPu 1 N _ _ (by (first | (simp only [List.length_append, List.length_cons, List.length_nil]; done) | (simp only [List.length_append, List.length_cons, List.length_nil]; omega)))) ?_
    rintro _ rfl
    refine W_uL (W_unNil ?_)
    refine W_call (hP 23 0 0 ⟨#[]⟩ N _ _ (by (first | (simp only [List.length_append, List.length_cons, List.length_nil]; done) | (simp only [List.length_append, List.length_cons, List.length_nil]; omega)))) ?_
    rintro _ rfl
    refine W_uI (W_uL (W_unNil ?_))
    have e2 : ∀ z : V, c ++ E0 ++ z :: [ins 1 0 1, insS 23 0 0 ⟨#[]⟩] ++ E1 ++ [insS 24 0 0 ⟨#[]⟩] ++ [ins 1 0 1] ++ [insS 23 0 0 ⟨#[]⟩] = (c ++ E0 ++ z :: [ins 1 0 1, insS 23 0 0 ⟨#[]⟩] ++ E1) ++ insS 24 0 0 ⟨#[]⟩ :: [ins 1 0 1, insS 23 0 0 ⟨#[]⟩] := fun z => by simp
    rw [e2]
    refine W_call (hH (c ++ E0 ++ _ :: [ins 1 0 1, insS 23 0 0 ⟨#[]⟩] ++ E1) _ 24 0 0 ⟨#[]⟩ _ N _ (by (first | (simp only [List.length_append, List.length_cons, List.length_nil]; done) | (simp only [List.length_append, List.length_cons, List.length_nil]; omega)))) ?_
    rintro _ rfl
    refine W_uL (W_unNil ?_)
    refine W_call (hPu 0 N _ _ (by (first | (simp only [List.length_append, List.length_cons, List.length_nil]; done) | (simp only [List.length_append, List.length_cons, List.length_nil]; omega)))) ?_
    rintro _ rfl
    refine W_uL (W_unNil ?_)
    have e3 : ∀ z y w : V, c ++ E0 ++ z :: [ins 1 0 1, insS 23 0 0 ⟨#[]⟩] ++ E1 ++ y :: [ins 1 0 1, insS 23 0 0 ⟨#[]⟩] ++ [w] = (c ++ E0 ++ [z, ins 1 0 1]) ++ insS 23 0 0 ⟨#[]⟩ :: (E1 ++ y :: [ins 1 0 1, insS 23 0 0 ⟨#[]⟩, w]) := fun z y w => by simp
    rw [e3]
    refine W_call (hH (c ++ E0 ++ [_, ins 1 0 1]) _ 23 0 0 ⟨#[]⟩ _ N _ (by (first | (simp only [List.length_append, List.length_cons, List.length_nil]; done) | (simp only [List.length_append, List.length_cons, List.length_nil]; omega)))) ?_
    rintro _ rfl
    refine W_uL (W_unNil ?_)
    have e4 : ∀ z u y w : V, (c ++ E0 ++ [z, ins 1 0 1]) ++ u :: (E1 ++ y :: [ins 1 0 1, insS 23 0 0 ⟨#[]⟩, w]) = (c ++ E0 ++ [z, ins 1 0 1] ++ u :: E1 ++ [y, ins 1 0 1]) ++ insS 23 0 0 ⟨#[]⟩ :: [w] := fun z u y w => by simp
    rw [e4]
    refine W_call (hH (c ++ E0 ++ [_, ins 1 0 1] ++ _ :: E1 ++ [_, ins 1 0 1]) _ 23 0 0 ⟨#[]⟩ _ N _ (by (first | (simp only [List.length_append, List.length_cons, List.length_nil]; done) | (simp only [List.length_append, List.length_cons, List.length_nil]; omega)))) ?_
    rintro _ rfl
    refine W_uL (W_unNil (W_ret ?_))
    simp [orX, ins, insS]
    omega
end
end Go.Proofs.Ytdfjodnkplbffaa.Vm
open Go Go.VM
set_option linter.unusedVariables false
set_option maxRecDepth 100000
set_option maxHeartbeats 4000000
namespace Go.Proofs.Ytdfjodnkplbffaa.Vm
/-! ### cotillion/flat.Find: function 58 -/
def L58 {R : Type} (_ : ORC R) (_ : Nat) : Nat → St → (Ex → St → Option R) → Option R := fun _ _ _ => none
def f58 {R : Type} (G : ORC R) (k : Nat) (al1 : List V) (as2 : ByteArray) (K : List V → Option R) : Option R :=
  (bif (ByteArray.toList as2 == ByteArray.toList ⟨#[]⟩) then (K [(.int .i64 (-1))]) else (G 65623 [(.sl 7 al1), (.str as2)] fun o3 => (uI .i64 o3 fun n5 r4 => (uS r4 fun s7 r6 => (unNil r6 (K [(.int .i64 n5)]))))))
theorem f58_is {R : Type} (G : ORC R) (k : Nat) (K : List V → Option R) (al1 : List V) (as2 : ByteArray) :
    callF (TAB.env 58) G (L58 G k) Try.f58 S58 [(.sl 7 al1), (.str as2)] K = f58 G k al1 as2 K := by kernel_rfl
theorem lo58 : loopsOf (bodyOf Try.f58) = [] := by kernel_rfl
theorem la58 {R : Type} (G : ORC R) (k : Nat) : LoopsAre (TAB.env 58) G (L58 G k) (bodyOf Try.f58) :=
  loopsAre_of (by rw [lo58]; intro p hp; cases hp)
def g58 {R : Type} (G : ORC R) (k : Nat) (args : List V) (K : List V → Option R) : Option R := match args with
  | [(.sl 7 al1), (.str as2)] => f58 G k al1 as2 K
  | _ => none
theorem s58 {R : Type} {G : ORC R} {k : Nat} (hG : Sound Try.prog TAB G) (args : List V) (K : List V → Option R) (r : R) (h : g58 G k args K = some r) : ∃ o, CallOK Try.prog TAB.env 58 args o ∧ K o = some r := by
  unfold g58 at h
  split at h
  · rw [← f58_is] at h
    exact callF_sound (f := 58) TAB_chk MO hG Try.func58 (sg := S58) (by kernel_rfl) (by kernel_rfl) (la58 G k) h
  · cases h
end Go.Proofs.Ytdfjodnkplbffaa.Vm
open Go Go.VM
set_option linter.unusedVariables false
set_option maxRecDepth 100000
set_option maxHeartbeats 4000000
namespace Go.Proofs.Ytdfjodnkplbffaa.Vm
/-! ### cotillion/flat.Find$1: function 88 -/
def L88 {R : Type} (_ : ORC R) (_ : Nat) : Nat → St → (Ex → St → Option R) → Option R := fun _ _ _ => none
def f88 {R : Type} (G : ORC R) (k : Nat) (ai1 ai2 : Int) (ai3 ai4 : Int) (ai5 ai6 : Int) (as7 bs8 : ByteArray) (K : List V → Option R) : Option R :=
  (K [(.bool (ByteArray.toList as7 == ByteArray.toList bs8)), (.str bs8)])
theorem f88_is {R : Type} (G : ORC R) (k : Nat) (K : List V → Option R) (ai1 ai2 : Int) (ai3 ai4 : Int) (ai5 ai6 : Int) (as7 bs8 : ByteArray) :
    callF (TAB.env 88) G (L88 G k) Try.f88 S88 [(.agg [(.int .i64 ai1), (.int .i64 ai2), (.int .i64 ai3), (.int .i64 ai4), (.int .i64 ai5), (.int .i64 ai6), (.str as7)]), (.str bs8)] K = f88 G k ai1 ai2 ai3 ai4 ai5 ai6 as7 bs8 K := by kernel_rfl
theorem lo88 : loopsOf (bodyOf Try.f88) = [] := by kernel_rfl
theorem la88 {R : Type} (G : ORC R) (k : Nat) : LoopsAre (TAB.env 88) G (L88 G k) (bodyOf Try.f88) :=
  loopsAre_of (by rw [lo88]; intro p hp; cases hp)
def g88 {R : Type} (G : ORC R) (k : Nat) (args : List V) (K : List V → Option R) : Option R := match args with
  | [(.agg [(.int .i64 ai1), (.int .i64 ai2), (.int .i64 ai3), (.int .i64 ai4), (.int .i64 ai5), (.int .i64 ai6), (.str as7)]), (.str bs8)] => f88 G k ai1 ai2 ai3 ai4 ai5 ai6 as7 bs8 K
  | _ => none
theorem s88 {R : Type} {G : ORC R} {k : Nat} (hG : Sound Try.prog TAB G) (args : List V) (K : List V → Option R) (r : R) (h : g88 G k args K = some r) : ∃ o, CallOK Try.prog TAB.env 88 args o ∧ K o = some r := by
  unfold g88 at h
  split at h
  · rw [← f88_is] at h
    exact callF_sound (f := 88) TAB_chk MO hG Try.func88 (sg := S88) (by kernel_rfl) (by kernel_rfl) (la88 G k) h
  · cases h
end Go.Proofs.Ytdfjodnkplbffaa.Vm
open Go Go.VM
set_option linter.unusedVariables false
set_option maxRecDepth 100000
set_option maxHeartbeats 4000000
namespace Go.Proofs.Ytdfjodnkplbffaa.Vm
/-! ### slices.IndexFunc[[]cotillion/api.Node,cotillion/api.Node]: function 65623 -/
def P65623_0h : Pat := { tmps := unds [.var (.sl 7) .ro, .stat (.one (.fn 88 [(.ptr 0 0)]) .pt)] 5 (unds [.var (.int .i64) .pr, .var (.int .i64) .pr] 10 []), boxes := nons [some [.var .str .pr false]] 19 [] }
def P65623_0x : Pat := { tmps := unds [] 19 [], boxes := nons [some [.var .str .pr false]] 19 [] }
def P65623_0r : Pat := { tmps := unds [.undef, .undef, .undef, .undef, .var (.int .i64) .pr] 14 [], boxes := nons [some [.var .str .pr false]] 19 [] }
def b65623_0 {R : Type} (G : ORC R) (k : Nat) (X : List V → Int → Int → ByteArray → Option R) (Ko : ByteArray → Option R) (Kr : Int → ByteArray → Option R) (xl3 : List V) (xi4 xi5 : Int) (xs6 : ByteArray) : Option R :=
  (bif (decide (xi5 < xi4)) then (bif ((decide (0 ≤ xi5)) && (decide (xi5 < ((List.length xl3 : Nat) : Int)))) then (nthK xl3 (Int.toNat xi5) fun e7 => (V.asAgg e7 fun l8 => (G 88 [(.agg l8), (.str xs6)] fun o9 => (uB o9 fun b11 r10 => (uS r10 fun s13 r12 => (unNil r12 (bif b11 then (Kr xi5 s13) else (X xl3 xi4 (IntKind.i64.wrap (xi5 + 1)) s13)))))))) else none) else (Ko xs6))
def l65623_0g {R : Type} (G : ORC R) (k : Nat) (Ko : ByteArray → Option R) (Kr : Int → ByteArray → Option R) : Nat → List V → Int → Int → ByteArray → Option R
  | 0 => fun _ _ _ _ => none
  | j + 1 => b65623_0 G k (l65623_0g G k Ko Kr j) Ko Kr
def l65623_0 {R : Type} (G : ORC R) (k : Nat) (xl3 : List V) (xi4 xi5 : Int) (xs6 : ByteArray) (Ko : ByteArray → Option R) (Kr : Int → ByteArray → Option R) : Option R := l65623_0g G k Ko Kr k xl3 xi4 xi5 xs6
def rd65623_0 {R : Type} (G : ORC R) (k : Nat) (K : Ex → St → Option R) (j : Nat) (vs : List V) : Option R := match vs with
  | [(.sl 7 xl3), (.int .i64 xi4), (.int .i64 xi5), (.str xs6)] => l65623_0g G k (fun ys17 => K .normal (P65623_0x.inst [(.str ys17)])) (fun yi18 ys19 => K .ret (P65623_0r.inst [(.int .i64 yi18), (.str ys19)])) j xl3 xi4 xi5 xs6
  | _ => none
def L65623 {R : Type} (G : ORC R) (k : Nat) : Nat → St → (Ex → St → Option R) → Option R
  | 0, S, K => P65623_0h.mat S fun vs => rd65623_0 G k K k vs
  | _, _, _ => none
def f65623 {R : Type} (G : ORC R) (k : Nat) (al1 : List V) (bs2 : ByteArray) (K : List V → Option R) : Option R :=
  (l65623_0 G k al1 ((List.length al1 : Nat) : Int) 0 bs2 (fun ys14 => (K [(.int .i64 (-1)), (.str ys14)])) (fun yi15 ys16 => (K [(.int .i64 yi15), (.str ys16)])))
noncomputable def D65623_0 : LoopD := { id := 0, body := loopAt 0 (bodyOf Try.f87), head := P65623_0h, out := P65623_0x, ret := P65623_0r }
theorem l65623_0_is {R : Type} (G : ORC R) (k : Nat) (X : List V → Option R) (K : Ex → St → Option R) (xl3 : List V) (xi4 xi5 : Int) (xs6 : ByteArray) :
    roundOf (TAB.env 65623) G (L65623 G k) D65623_0 X K [(.sl 7 xl3), (.int .i64 xi4), (.int .i64 xi5), (.str xs6)] = b65623_0 G k (fun xl3 xi4 xi5 xs6 => X [(.sl 7 xl3), (.int .i64 xi4), (.int .i64 xi5), (.str xs6)]) (fun ys17 => K .normal (P65623_0x.inst [(.str ys17)])) (fun yi18 ys19 => K .ret (P65623_0r.inst [(.int .i64 yi18), (.str ys19)])) xl3 xi4 xi5 xs6 := by kernel_rfl
theorem f65623_is {R : Type} (G : ORC R) (k : Nat) (K : List V → Option R) (al1 : List V) (bs2 : ByteArray) :
    callF (TAB.env 65623) G (L65623 G k) Try.f87 S65623 [(.sl 7 al1), (.str bs2)] K = f65623 G k al1 bs2 K := by kernel_rfl
theorem li65623_0 {R : Type} (G : ORC R) (k : Nat) : LoopIs (TAB.env 65623) G (L65623 G k) 0 (loopAt 0 (bodyOf Try.f87)) :=
  ⟨D65623_0, fun j vs K => rd65623_0 G k K j vs, k, rfl, rfl, by kernel_rfl, by kernel_rfl, by kernel_rfl, (fun vs K => by unfold rd65623_0; dsimp only; split <;> rfl),
    (fun j vs K r h => by
      unfold rd65623_0 at h
      dsimp only at h
      split at h
      · rw [l65623_0_is]; exact h
      · cases h), (fun S K r h => h)⟩
theorem lo65623 : loopsOf (bodyOf Try.f87) = [(0, loopAt 0 (bodyOf Try.f87))] := by kernel_rfl
theorem la65623 {R : Type} (G : ORC R) (k : Nat) : LoopsAre (TAB.env 65623) G (L65623 G k) (bodyOf Try.f87) :=
  loopsAre_of (by rw [lo65623]; intro p hp; simp only [List.mem_cons, List.not_mem_nil, or_false] at hp; subst hp; exact li65623_0 G k)
def g65623 {R : Type} (G : ORC R) (k : Nat) (args : List V) (K : List V → Option R) : Option R := match args with
  | [(.sl 7 al1), (.str bs2)] => f65623 G k al1 bs2 K
  | _ => none
theorem s65623 {R : Type} {G : ORC R} {k : Nat} (hG : Sound Try.prog TAB G) (args : List V) (K : List V → Option R) (r : R) (h : g65623 G k args K = some r) : ∃ o, CallOK Try.prog TAB.env 65623 args o ∧ K o = some r := by
  unfold g65623 at h
  split at h
  · rw [← f65623_is] at h
    exact callF_sound (f := 65623) TAB_chk MO hG Try.func87 (sg := S65623) (by kernel_rfl) (by kernel_rfl) (la65623 G k) h
  · cases h
end Go.Proofs.Ytdfjodnkplbffaa.Vm
open Go Go.VM
set_option linter.unusedVariables false
set_option linter.unusedSimpArgs false
set_option maxRecDepth 100000
set_option maxHeartbeats 8000000
namespace Go.Proofs.Ytdfjodnkplbffaa.Vm
section
variable {R : Type} {G : ORC R} {k : Nat} {K : List V → Option R}
def FcOK (G : ORC R) : Prop := ∀ (n : Nd) (s : ByteArray) (K : List V → Option R), W (fun o => o = [.bool (n.name.toList == s.toList), .str s]) K (G 88 [n.v, .str s] K)
theorem fc_ok : FcOK (fun _ args (K : List V → Option R) => g88 G k args K) := by
  intro n s K
  show W _ K (f88 G k n.kind n.parent n.last n.init n.entry n.exit n.name s K)
  unfold f88
  exact W_ret rfl
def IxOK (G : ORC R) : Prop := ∀ (l : List Nd) (s : ByteArray) (K : List V → Option R), l.length ≤ 1000 → W (fun o => o = [.int .i64 (findGo s l 0), .str s]) K (G 65623 [.sl 7 (l.map Nd.v), .str s] K)
theorem ix_loop (hF : FcOK G) {Q : List V → Prop} {K : List V → Option R} {Ko : ByteArray → Option R} {Kr : Int → ByteArray → Option R} {l : List Nd} {s : ByteArray} (hl : l.length ≤ 1000)
    (hKo : findGo s l 0 = -1 → W Q K (Ko s)) (hKr : ∀ i, i = findGo s l 0 → W Q K (Kr i s)) :
    ∀ (j i : Nat), l.length - i < j → findGo s (l.drop i) i = findGo s l 0 → W Q K (l65623_0g G k Ko Kr j (l.map Nd.v) l.length i s)
  | 0, i, h1, h2 => by omega
  | j + 1, i, h1, h2 => by
    show W Q K (b65623_0 G k (l65623_0g G k Ko Kr j) Ko Kr (l.map Nd.v) l.length i s)
    unfold b65623_0
    refine W_dec (fun h => ?_) (fun h => ?_)
    · obtain ⟨n, hn⟩ : ∃ n, l[i]? = some n := ⟨_, List.getElem?_eq_getElem (by omega)⟩
      refine W_at (by omega) (by rw [Int.toNat_natCast]; exact nd_get hn) ?_
      have hd : l.drop i = n :: l.drop (i + 1) := by
        have hi : i < l.length := by omega
        rw [List.drop_eq_getElem_cons hi]
        rw [List.getElem?_eq_getElem hi] at hn; cases hn; rfl
      rw [hd, findGo] at h2
      unfold FcOK at hF
      unfold Nd.v
      refine W_asAgg ?_
      refine W_call (hF n s _) ?_
      rintro _ rfl
      (repeat (with_reducible (first | (refine W_uI ?_) | (refine W_uS ?_) | (refine W_uL ?_) | (refine W_uA ?_) | (refine W_uB ?_) | (refine W_aI ?_) | (refine W_aL ?_) | (refine W_ca3 ?_) | (refine W_ce3 ?_) | (refine W_ca4 ?_) | (refine W_ce4 ?_) | (refine W_ca5 ?_) | (refine W_ce5 ?_) | (refine W_ca6 ?_) | (refine W_ce6 ?_) | (refine W_ca7 ?_) | (refine W_ce7 ?_) | (refine W_ca8 ?_) | (refine W_ce8 ?_) | (refine W_nd7 ?_) | (refine W_unCons ?_) | (refine W_unNil ?_) | (refine W_asInt ?_) | (refine W_asBool ?_) | (refine W_asStr ?_) | (refine W_asSl ?_) | (refine W_asAgg ?_) | (refine W_kd ?_) | (refine W_z ?_))))
      refine W_bool (fun e => ?_) (fun e => ?_)
      · rw [if_pos (beq_iff_eq.1 e)] at h2
        exact hKr _ h2
      · rw [if_neg (fun e' => by rw [e', beq_self_eq_true] at e; cases e)] at h2
        rw [wrap_id (n := (i : Int) + 1) (by omega)]
        exact ix_loop hF hl hKo hKr j (i + 1) (by omega) h2
    · refine hKo ?_
      rw [← h2, List.drop_eq_nil_of_le (by omega)]; rfl
theorem ix_ok (hk : 10000 ≤ k) (hF : FcOK G) : IxOK (fun _ args (K : List V → Option R) => g65623 G k args K) := by
  intro l s K hl
  show W _ K (f65623 G k (l.map Nd.v) s K)
  unfold f65623 l65623_0
  simp only [List.length_map]
  exact ix_loop (Q := fun o => o = [.int .i64 (findGo s l 0), .str s]) (K := K) (Ko := fun t => K [.int .i64 (-1), .str t]) (Kr := fun i t => K [.int .i64 i, .str t]) hF hl (fun e => W_ret (by rw [e])) (fun i e => W_ret (by rw [e])) k 0 (by omega) rfl
theorem findGo_none {s : ByteArray} : ∀ {r : List Nd} {i : Nat}, (∀ n ∈ r, n.name.toList ≠ s.toList) → findGo s r i = -1
  | [], i, _ => rfl
  | n :: r, i, h => by unfold findGo; rw [if_neg (h n List.mem_cons_self), findGo_none (fun m hm => h m (List.mem_cons_of_mem _ hm))]
def CFindOK (G : ORC R) : Prop := ∀ (l : List Nd) (s : ByteArray) (K : List V → Option R), l.length ≤ 1000 → NamesNE l → W (fun o => o = [.int .i64 (findN l s)]) K (G 58 [.sl 7 (l.map Nd.v), .str s] K)
theorem toList_nil {s : ByteArray} : ByteArray.toList ⟨#[]⟩ = [] := by rw [ba_toList]
theorem cfind_ok (hI : IxOK G) : CFindOK (fun _ args (K : List V → Option R) => g58 G k args K) := by
  intro l s K hl hn
  show W _ K (f58 G k (l.map Nd.v) s K)
  unfold f58
  unfold IxOK at hI
  refine W_bool (fun e => W_ret ?_) (fun e => ?_)
  · have e := beq_iff_eq.1 e
    congr 2
    refine (findGo_none fun n hm => ?_).symm
    obtain ⟨j, hj⟩ := List.getElem?_of_mem hm
    rw [List.getElem?_drop] at hj
    rw [e, toList_nil (s := s)]; exact hn.2 _ n hj (by omega)
  · refine W_call (hI _ _ _ hl) ?_
    rintro _ rfl
    (repeat (with_reducible (first | (refine W_uI ?_) | (refine W_uS ?_) | (refine W_uL ?_) | (refine W_uA ?_) | (refine W_uB ?_) | (refine W_aI ?_) | (refine W_aL ?_) | (refine W_ca3 ?_) | (refine W_ce3 ?_) | (refine W_ca4 ?_) | (refine W_ce4 ?_) | (refine W_ca5 ?_) | (refine W_ce5 ?_) | (refine W_ca6 ?_) | (refine W_ce6 ?_) | (refine W_ca7 ?_) | (refine W_ce7 ?_) | (refine W_ca8 ?_) | (refine W_ce8 ?_) | (refine W_nd7 ?_) | (refine W_unCons ?_) | (refine W_unNil ?_) | (refine W_asInt ?_) | (refine W_asBool ?_) | (refine W_asStr ?_) | (refine W_asSl ?_) | (refine W_asAgg ?_) | (refine W_kd ?_) | (refine W_z ?_))))
    refine W_ret ?_
    congr 2
    cases l with
    | nil => rfl
    | cons a r =>
      unfold findN
      rw [findGo, if_neg]
      · rfl
      · rw [hn.1 a rfl]
        intro h
        rw [← h, toList_nil (s := s), beq_self_eq_true] at e; cases e
end
end Go.Proofs.Ytdfjodnkplbffaa.Vm
open Go Go.VM
set_option linter.unusedVariables false
set_option linter.unusedSimpArgs false
set_option maxRecDepth 100000
set_option maxHeartbeats 8000000
namespace Go.Proofs.Ytdfjodnkplbffaa.Vm
section
variable {R : Type} {G : ORC R} {k : Nat} {K : List V → Option R}
/-- The codes of an expression's parts, one behind the other. -/
def cEs (N : Nms) (d : Nat) : Nat → List V → List V
  | _, [] => []
  | at_, e :: r => cE N d at_ e ++ cEs N d (at_ + (cE N d at_ e).length) r
theorem kids_loop {d : Nat} (hE : CX d G) {Q : List V → Prop} {K : List V → Option R} {Ko : List V → List V → List V → List V → List V → Int → Int → ByteArray → List V → Int → Option R} {N : Nms} {kids : List V} {y1 y2 y5 : Int} {y3 : ByteArray} {y4 : List V} (hN : N.ok) (hk : ∀ e ∈ kids, ExprS d e) (hl : kids.length ≤ 2) {out : List V}
    (hKo : W Q K (Ko N.a N.p N.t (N.nd.map Nd.v) out y1 y2 y3 y4 y5)) :
    ∀ (B A : List V) (j : Nat) (c : List V), kids = A ++ B → B.length < j → out = c ++ cEs N d c.length B → c.length + B.length * ce d ≤ 1000000 → W Q K (l41_1g G k Ko j kids kids.length A.length N.a N.p N.t (N.nd.map Nd.v) c y1 y2 y3 y4 y5)
  | B, A, 0, c, h1, h2, h3, h4 => by omega
  | [], A, j + 1, c, h1, h2, h3, h4 => by
    show W Q K (b41_1 G k (l41_1g G k Ko j) Ko kids kids.length A.length N.a N.p N.t (N.nd.map Nd.v) c y1 y2 y3 y4 y5)
    unfold b41_1
    rw [List.append_nil] at h1
    subst h1
    refine W_no (by omega) ?_
    rw [h3] at hKo
    simpa [cEs] using hKo
  | b :: B, A, j + 1, c, h1, h2, h3, h4 => by
    show W Q K (b41_1 G k (l41_1g G k Ko j) Ko kids kids.length A.length N.a N.p N.t (N.nd.map Nd.v) c y1 y2 y3 y4 y5)
    unfold b41_1
    have hb := hk b (by rw [h1]; simp)
    have lb := cE_len (N := N) (at_ := c.length) hb
    have hlen : kids.length = A.length + (B.length + 1) := by rw [h1]; simp
    have hget : kids[((A.length : Nat) : Int).toNat]? = some b := by rw [Int.toNat_natCast, h1]; simp
    have hE' := hE
    unfold CX at hE'
    have hb' := hb
    cases d with
    | zero => exact hb.elim
    | succ d =>
    obtain ⟨kd, n1, nm1, ks1, rfl, _⟩ := hb
    rw [List.length_cons, Nat.succ_mul] at h4
    refine W_yes (by omega) (W_at (by omega) hget ?_)
    (repeat (with_reducible (first | (refine W_uI ?_) | (refine W_uS ?_) | (refine W_uL ?_) | (refine W_uA ?_) | (refine W_uB ?_) | (refine W_aI ?_) | (refine W_aL ?_) | (refine W_ca3 ?_) | (refine W_ce3 ?_) | (refine W_ca4 ?_) | (refine W_ce4 ?_) | (refine W_ca5 ?_) | (refine W_ce5 ?_) | (refine W_ca6 ?_) | (refine W_ce6 ?_) | (refine W_ca7 ?_) | (refine W_ce7 ?_) | (refine W_ca8 ?_) | (refine W_ce8 ?_) | (refine W_nd7 ?_) | (refine W_unCons ?_) | (refine W_unNil ?_) | (refine W_asInt ?_) | (refine W_asBool ?_) | (refine W_asStr ?_) | (refine W_asSl ?_) | (refine W_asAgg ?_) | (refine W_kd ?_) | (refine W_z ?_))))
    refine W_call (hE' c _ N _ hb' hN (by omega)) ?_
    rintro _ rfl
    refine W_uL (W_unNil ?_)
    rw [wrap_id (n := (A.length : Int) + 1) (by omega)]
    have := kids_loop hE hN hk hl hKo B (A ++ [V.agg [.int .i64 kd, .int .i64 n1, .str nm1, .sl 5 ks1, .int .i64 0]]) j (c ++ cE N (d + 1) c.length (.agg [.int .i64 kd, .int .i64 n1, .str nm1, .sl 5 ks1, .int .i64 0])) (by rw [h1]; simp) (by simp at h2; omega) (by rw [h3, cEs, List.length_append, List.append_assoc]) (by rw [List.length_append]; omega)
    simpa using this
theorem cexprx_ok {d : Nat} (hk : 10000 ≤ k) (hPu : PushX G) (hP : PutX G) (hI : PlX 57 G) (hF : CFindOK G) (hOp : OpX 60 G) (hB : CBX d G) (hE : CX d G) : CX (d + 1) (fun _ args (K : List V → Option R) => g41 G k args K) := by
  intro c e N K he hN hm
  have hlen := cE_len (N := N) (at_ := c.length) he
  obtain ⟨kind, n, nm, kids, rfl, x1, x2, x3, x4, x5, x6, x7⟩ := he
  show W _ K (f41 G k kind n nm kids 0 N.a N.p N.t (N.nd.map Nd.v) c K)
  unfold f41
  have hce : ce (d + 1) = 2 * ce d + 8 := rfl
  have hE' := hE
  unfold PutX at hP; unfold PushX at hPu; unfold PlX at hI; unfold CFindOK at hF; unfold OpX at hOp; unfold CBX at hB
  refine W_beqI (fun h => ?_) (fun h1 => ?_)
  · refine W_call (hPu n N c _ (by omega)) ?_
    rintro _ rfl
    exact W_uL (W_unNil (W_ret (by unfold cE; rw [if_pos h])))
  refine W_beqI (fun h => ?_) (fun h2 => ?_)
  · refine W_call (hI _ _ _ hN.1) ?_
    rintro _ rfl
    refine W_uI (W_unNil ?_)
    refine W_call (hP 2 _ 0 ⟨#[]⟩ N c _ (by omega)) ?_
    rintro _ rfl
    exact W_uI (W_uL (W_unNil (W_ret (by unfold cE; rw [if_neg h1, if_pos h]; rfl))))
  refine W_beqI (fun h => ?_) (fun h3 => ?_)
  · refine W_call (hP 3 0 0 ⟨#[]⟩ N c _ (by omega)) ?_
    rintro _ rfl
    exact W_uI (W_uL (W_unNil (W_ret (by unfold cE; rw [if_neg h1, if_neg h2, if_pos h]; rfl))))
  refine W_beqI (fun h => ?_) (fun h4 => ?_)
  · refine W_call (hF _ _ _ hN.2.2.2.1 hN.2.2.2.2) ?_
    rintro _ rfl
    refine W_uI (W_unNil ?_)
    refine W_call (hP 4 _ 0 ⟨#[]⟩ N c _ (by omega)) ?_
    rintro _ rfl
    exact W_uI (W_uL (W_unNil (W_ret (by unfold cE; rw [if_neg h1, if_neg h2, if_neg h3, if_pos h]; rfl))))
  have both : kind = 18 ∨ kind = 19 → W (fun o => o = [.sl 4 (c ++ cE N (d + 1) c.length (.agg [.int .i64 kind, .int .i64 n, .str nm, .sl 5 kids, .int .i64 0]))]) K
      (bif ((List.length kids : Nat) : Int) == 2 then G 59 [.agg [.int .i64 kind, .int .i64 n, .str nm, .sl 5 kids, .int .i64 0], .sl 1 N.a, .sl 1 N.p, .sl 1 N.t, .sl 7 (N.nd.map Nd.v), .sl 4 c] (fun o35 => uL 4 o35 fun l37 r36 => unNil r36 (K [.sl 4 l37])) else K [.sl 4 c]) := fun h => by
    have hk2 : kids.length = 2 := by omega
    refine W_eqY (by omega) ?_
    obtain ⟨a, b, rfl⟩ : ∃ a b, kids = [a, b] := by
      match kids, hk2 with
      | [a, b], _ => exact ⟨a, b, rfl⟩
    refine W_call (hB c kind n 0 nm a b N _ h (x6 a (by simp)) (x6 b (by simp)) hN hm) ?_
    rintro _ rfl
    refine W_uL (W_unNil (W_ret ?_))
    conv => rhs; unfold cE
    rw [if_neg h1, if_neg h2, if_neg h3, if_neg h4]
    dsimp only
    by_cases h18 : kind = 18
    · rw [if_pos h18, if_pos h18]
    · rw [if_neg h18, if_neg h18, if_pos (by omega)]
  refine W_beqI (fun h18 => W_eqY h18 (both (.inl h18))) (fun h18 => ?_)
  refine W_beqI (fun h19 => both (.inr h19)) (fun h19 => ?_)
  unfold l41_1
  refine kids_loop (out := c ++ cEs N d c.length kids) hE' hN x6 x5 ?_ kids [] k c rfl (by omega) rfl (by have : kids.length * ce d ≤ 2 * ce d := Nat.mul_le_mul_right _ x5; omega)
  have fin : cE N (d + 1) c.length (.agg [.int .i64 kind, .int .i64 n, .str nm, .sl 5 kids, .int .i64 0]) = cEs N d c.length kids ++ [ins kind 0 0] := by
    conv => lhs; unfold cE
    rw [if_neg h1, if_neg h2, if_neg h3, if_neg h4]
    have : kids.length = 1 ∨ kids.length = 2 := by omega
    match kids, this with
    | [a], _ => simp [cEs]
    | [a, b], _ => dsimp only; rw [if_neg h18, if_neg h19]; simp [cEs]
  rw [fin] at hlen ⊢
  refine W_call (hOp _ _ (by omega) (by omega)) ?_
  rintro _ rfl
  refine W_uI (W_unNil ?_)
  refine W_call (hP kind 0 0 ⟨#[]⟩ N _ _ (by simp at hlen ⊢; omega)) ?_
  rintro _ rfl
  exact W_uI (W_uL (W_unNil (W_ret (by rw [List.append_assoc]; rfl))))
end
end Go.Proofs.Ytdfjodnkplbffaa.Vm
open Go Go.VM
set_option linter.unusedVariables false
set_option maxRecDepth 100000
set_option maxHeartbeats 4000000
namespace Go.Proofs.Ytdfjodnkplbffaa.Vm
section
variable {R : Type} {G : ORC R} {k : Nat} {K : List V → Option R}
def ExprOK (d : Nat) (G : ORC R) : Prop := ∀ (a b c s L : List V) (n i : Int) (K : List V → Option R), n = (d : Int) → StrsS 100 a → StrsS 100 s → RowS L i →
  W (fun o => ∃ e j, o = [e, .int .i64 j] ∧ ExprS (d + 1) e ∧ RowS L j) K (G 23 [.agg [.sl 1 a, .sl 1 b, .sl 1 c, .sl 1 s], .int .i64 n, .sl 1 L, .int .i64 i] K)
theorem expr_mk {d : Nat} {kind n : Int} {nm : ByteArray} {kids : List V} (h1 : I64 n) (h2 : StrS nm) (h3 : 1 ≤ kind ∧ kind ≤ 19) (h4 : kids.length ≤ 2) (h5 : ∀ e ∈ kids, ExprS d e) (h6 : kind ≤ 4 ∨ (kind ≤ 6 ∧ kids.length = 1) ∨ (7 ≤ kind ∧ kids.length = 2)) :
    ExprS (d + 1) (.agg [.int .i64 kind, .int .i64 n, .str nm, .sl 5 kids, .int .i64 0]) := ⟨kind, n, nm, kids, rfl, h1, h2, h3.1, h3.2, h4, h5, h6⟩
theorem expr_at {d : Nat} {kind n x : Int} {nm : ByteArray} {kids : List V} (h : ExprS d (.agg [.int .i64 kind, .int .i64 n, .str nm, .sl 5 kids, .int .i64 x])) : x = 0 := by
  cases d with
  | zero => exact h.elim
  | succ d => obtain ⟨_, _, _, _, e, _⟩ := h; injection e with e; simp at e; exact e.2.2.2.2
theorem one_mem {d : Nat} {a : V} (h : ExprS d a) : ∀ e ∈ [a], ExprS d e := fun e he => by rw [List.mem_singleton.1 he]; exact h
theorem two_mem {d : Nat} {a b : V} (h : ExprS d a) (h' : ExprS d b) : ∀ e ∈ [a, b], ExprS d e := fun e he => by
  simp only [List.mem_cons, List.not_mem_nil, or_false] at he
  rcases he with rfl | rfl
  · exact h
  · exact h'
theorem strs0 : StrS ⟨#[]⟩ := by unfold StrS; decide
theorem expr_ok {d : Nat} (hd : d ≤ 20) (hN : NextS G) (hPk : PickS G) (hE : ∀ d', d = d' + 1 → ExprOK d' G) : ExprOK d (fun _ args (K : List V → Option R) => g23 G k args K) := by
  intro a b c s L n i K hn ha hs hr
  show W _ K (f23 G k a b c s n L i K)
  unfold f23
  unfold NextS at hN; unfold PickS at hPk; unfold ExprOK at hE
  have la := ha.1
  have lss := hs.1
  have hE' : n ≠ 0 → ∃ d', d = d' + 1 := fun h => ⟨d - 1, by omega⟩
  have hEn : ∀ d', d = d' + 1 → IntKind.i64.wrap (n - 1) = (d' : Int) := fun d' h => by rw [wrap_id (by omega)]; omega
  refine W_call (hN _ _ _ _ (by omega) (by omega) hr) ?_
  rintro o ⟨x, i1, rfl, x1, x2, hr1⟩
  have ht := tmod_lt (v := x) (n := 6) (by omega)
  by_cases hn0 : n = 0
  · clear hE' hEn hE
    repeat' (first
      | with_reducible (first | (refine W_uI ?_) | (refine W_uS ?_) | (refine W_uL ?_) | (refine W_uA ?_) | (refine W_uB ?_) | (refine W_aI ?_) | (refine W_aL ?_) | (refine W_ca3 ?_) | (refine W_ce3 ?_) | (refine W_ca4 ?_) | (refine W_ce4 ?_) | (refine W_ca5 ?_) | (refine W_ce5 ?_) | (refine W_ca6 ?_) | (refine W_ce6 ?_) | (refine W_ca7 ?_) | (refine W_ce7 ?_) | (refine W_ca8 ?_) | (refine W_ce8 ?_) | (refine W_unCons ?_) | (refine W_unNil ?_) | (refine W_asInt ?_) | (refine W_asStr ?_) | (refine W_asSl ?_) | (refine W_asAgg ?_) | (refine W_kd ?_) | (refine W_z ?_))
      | ((with_reducible (refine W_call (hN _ _ _ _ ?_ ?_ (by assumption)) ?_)); omega; omega; rintro _ ⟨_, _, rfl, _, _, _⟩)
      | ((with_reducible (refine W_call (hPk _ _ _ _ 100 _ (by assumption) ?_ strs0 (by assumption)) ?_)); omega; rintro _ ⟨_, _, rfl, _, _, _⟩)
      | (with_reducible (refine W_and ?_)) | ((with_reducible (refine W_yes ?_ ?_)); omega) | ((with_reducible (refine W_no ?_ ?_)); omega) | ((with_reducible (refine W_eqY ?_ ?_)); omega) | ((with_reducible (refine W_eqN ?_ ?_)); omega)
      | (with_reducible (refine W_dec (fun _ => ?_) (fun _ => ?_))) | (with_reducible (refine W_beqI (fun _ => ?_) (fun _ => ?_)))
      | ((with_reducible (refine W_nth ?_ (fun v _ hv => ?_))); (simp; omega); simp only [List.mem_cons, List.not_mem_nil, or_false] at hv; rcases hv with rfl | rfl | rfl | rfl | rfl | rfl)
      | (refine W_ret ⟨_, _, rfl, expr_mk (by unfold I64; omega) (by first | assumption | exact strs0) ⟨by omega, by omega⟩ (by simp) (by simp) (by omega), by assumption⟩))
  · obtain ⟨d', rfl⟩ := hE' hn0
    have hEn := hEn d' rfl
    have hE := hE d' rfl
    clear hE'
    repeat' (first
      | with_reducible (first | (refine W_uI ?_) | (refine W_uS ?_) | (refine W_uL ?_) | (refine W_uA ?_) | (refine W_uB ?_) | (refine W_aI ?_) | (refine W_aL ?_) | (refine W_ca3 ?_) | (refine W_ce3 ?_) | (refine W_ca4 ?_) | (refine W_ce4 ?_) | (refine W_ca5 ?_) | (refine W_ce5 ?_) | (refine W_ca6 ?_) | (refine W_ce6 ?_) | (refine W_ca7 ?_) | (refine W_ce7 ?_) | (refine W_ca8 ?_) | (refine W_ce8 ?_) | (refine W_unCons ?_) | (refine W_unNil ?_) | (refine W_asInt ?_) | (refine W_asStr ?_) | (refine W_asSl ?_) | (refine W_asAgg ?_) | (refine W_kd ?_) | (refine W_z ?_))
      | ((with_reducible (refine W_call (hN _ _ _ _ ?_ ?_ (by assumption)) ?_)); omega; omega; rintro _ ⟨_, _, rfl, _, _, _⟩)
      | ((with_reducible (refine W_call (hPk _ _ _ _ 100 _ (by assumption) ?_ strs0 (by assumption)) ?_)); omega; rintro _ ⟨_, _, rfl, _, _, _⟩)
      | ((with_reducible (refine W_call (hE _ _ _ _ _ _ _ _ hEn (by assumption) (by assumption) (by assumption)) ?_)); rintro _ ⟨_, _, rfl, he, _⟩; have he2 := he; obtain ⟨_, _, _, _, rfl, _, _, _, _, _, _, _⟩ := he)
      | (with_reducible (refine W_and ?_)) | ((with_reducible (refine W_yes ?_ ?_)); omega) | ((with_reducible (refine W_no ?_ ?_)); omega) | ((with_reducible (refine W_eqY ?_ ?_)); omega) | ((with_reducible (refine W_eqN ?_ ?_)); omega)
      | (with_reducible (refine W_dec (fun _ => ?_) (fun _ => ?_))) | (with_reducible (refine W_beqI (fun _ => ?_) (fun _ => ?_)))
      | ((with_reducible (refine W_nth ?_ (fun v _ hv => ?_))); (simp; omega); simp only [List.mem_cons, List.not_mem_nil, or_false] at hv; rcases hv with rfl | rfl | rfl | rfl | rfl | rfl)
      | (refine W_ret ⟨_, _, rfl, expr_mk (by unfold I64; omega) (by first | assumption | exact strs0) ⟨by first | omega | (rw [wrap_id (by omega)]; omega), by first | omega | (rw [wrap_id (by omega)]; omega)⟩ (by simp) (by first | exact two_mem (by assumption) (by assumption) | exact one_mem (by assumption) | simp) (by first | exact .inr (.inr ⟨by rw [wrap_id (by omega)]; omega, rfl⟩) | exact .inr (.inl ⟨by rw [wrap_id (by omega)]; omega, rfl⟩) | omega), by assumption⟩))
end
end Go.Proofs.Ytdfjodnkplbffaa.Vm
open Go Go.VM
set_option linter.unusedVariables false
set_option maxRecDepth 100000
set_option maxHeartbeats 4000000
namespace Go.Proofs.Ytdfjodnkplbffaa.Vm
/-! ### cotillion/cotillionref16.Same: function 17 -/
def P17_0h : Pat := { tmps := unds [.var (.sl 4) .ro, .var (.sl 4) .ro, .undef, .undef, .undef, .var (.int .i64) .pr] 20 [], boxes := nons [] 26 [] }
def P17_0x : Pat := { tmps := unds [] 26 [], boxes := nons [] 26 [] }
def P17_0r : Pat := { tmps := unds [.undef, .undef, .undef, .undef, .var .bool .pr] 21 [], boxes := nons [] 26 [] }
def b17_0 {R : Type} (G : ORC R) (k : Nat) (X : List V → List V → Int → Option R) (Ko : Unit → Option R) (Kr : Bool → Option R) (xl3 xl4 : List V) (xi5 : Int) : Option R :=
  (bif (decide (xi5 < ((List.length xl3 : Nat) : Int))) then (bif ((decide (0 ≤ xi5)) && (decide (xi5 < ((List.length xl3 : Nat) : Int)))) then (nthK xl3 (Int.toNat xi5) fun e6 => (V.asAgg e6 fun l7 => (bif ((decide (0 ≤ xi5)) && (decide (xi5 < ((List.length xl4 : Nat) : Int)))) then (nthK xl4 (Int.toNat xi5) fun e8 => (V.asAgg e8 fun l9 => (ce4 l7 fun c10 c11 c12 c13 => (ce4 l9 fun c19 c20 c21 c22 => (V.asInt c10 fun k28 n29 => (V.asInt c19 fun k30 n31 => (bif ((decide (k28 = .i64)) && (decide (k30 = .i64))) then (V.asInt c11 fun k32 n33 => (V.asInt c20 fun k34 n35 => (bif ((decide (k32 = .i64)) && (decide (k34 = .i64))) then (V.asInt c12 fun k36 n37 => (V.asInt c21 fun k38 n39 => (bif ((decide (k36 = .i64)) && (decide (k38 = .i64))) then (V.asStr c13 fun s40 => (V.asStr c22 fun s41 => (bif (!((n29 == n31) && ((n33 == n35) && ((n37 == n39) && ((ByteArray.toList s40 == ByteArray.toList s41) && true))))) then (Kr false) else (X xl3 xl4 (IntKind.i64.wrap (xi5 + 1)))))) else none))) else none))) else none))))))) else none))) else none) else (Ko ()))
def l17_0g {R : Type} (G : ORC R) (k : Nat) (Ko : Unit → Option R) (Kr : Bool → Option R) : Nat → List V → List V → Int → Option R
  | 0 => fun _ _ _ => none
  | j + 1 => b17_0 G k (l17_0g G k Ko Kr j) Ko Kr
def l17_0 {R : Type} (G : ORC R) (k : Nat) (xl3 xl4 : List V) (xi5 : Int) (Ko : Unit → Option R) (Kr : Bool → Option R) : Option R := l17_0g G k Ko Kr k xl3 xl4 xi5
def rd17_0 {R : Type} (G : ORC R) (k : Nat) (K : Ex → St → Option R) (j : Nat) (vs : List V) : Option R := match vs with
  | [(.sl 4 xl3), (.sl 4 xl4), (.int .i64 xi5)] => l17_0g G k (fun _ => K .normal (P17_0x.inst [])) (fun yb43 => K .ret (P17_0r.inst [(.bool yb43)])) j xl3 xl4 xi5
  | _ => none
def L17 {R : Type} (G : ORC R) (k : Nat) : Nat → St → (Ex → St → Option R) → Option R
  | 0, S, K => P17_0h.mat S fun vs => rd17_0 G k K k vs
  | _, _, _ => none
def f17 {R : Type} (G : ORC R) (k : Nat) (al1 al2 : List V) (K : List V → Option R) : Option R :=
  (bif (((List.length al1 : Nat) : Int) != ((List.length al2 : Nat) : Int)) then (K [(.bool false)]) else (l17_0 G k al1 al2 0 (fun (_ : Unit) => (K [(.bool true)])) (fun yb42 => (K [(.bool yb42)]))))
noncomputable def D17_0 : LoopD := { id := 0, body := loopAt 0 (bodyOf Try.f17), head := P17_0h, out := P17_0x, ret := P17_0r }
theorem l17_0_is {R : Type} (G : ORC R) (k : Nat) (X : List V → Option R) (K : Ex → St → Option R) (xl3 xl4 : List V) (xi5 : Int) :
    roundOf (TAB.env 17) G (L17 G k) D17_0 X K [(.sl 4 xl3), (.sl 4 xl4), (.int .i64 xi5)] = b17_0 G k (fun xl3 xl4 xi5 => X [(.sl 4 xl3), (.sl 4 xl4), (.int .i64 xi5)]) (fun _ => K .normal (P17_0x.inst [])) (fun yb43 => K .ret (P17_0r.inst [(.bool yb43)])) xl3 xl4 xi5 := by kernel_rfl
theorem f17_is {R : Type} (G : ORC R) (k : Nat) (K : List V → Option R) (al1 al2 : List V) :
    callF (TAB.env 17) G (L17 G k) Try.f17 S17 [(.sl 4 al1), (.sl 4 al2)] K = f17 G k al1 al2 K := by kernel_rfl
theorem li17_0 {R : Type} (G : ORC R) (k : Nat) : LoopIs (TAB.env 17) G (L17 G k) 0 (loopAt 0 (bodyOf Try.f17)) :=
  ⟨D17_0, fun j vs K => rd17_0 G k K j vs, k, rfl, rfl, by kernel_rfl, by kernel_rfl, by kernel_rfl, (fun vs K => by unfold rd17_0; dsimp only; split <;> rfl),
    (fun j vs K r h => by
      unfold rd17_0 at h
      dsimp only at h
      split at h
      · rw [l17_0_is]; exact h
      · cases h), (fun S K r h => h)⟩
theorem lo17 : loopsOf (bodyOf Try.f17) = [(0, loopAt 0 (bodyOf Try.f17))] := by kernel_rfl
theorem la17 {R : Type} (G : ORC R) (k : Nat) : LoopsAre (TAB.env 17) G (L17 G k) (bodyOf Try.f17) :=
  loopsAre_of (by rw [lo17]; intro p hp; simp only [List.mem_cons, List.not_mem_nil, or_false] at hp; subst hp; exact li17_0 G k)
def g17 {R : Type} (G : ORC R) (k : Nat) (args : List V) (K : List V → Option R) : Option R := match args with
  | [(.sl 4 al1), (.sl 4 al2)] => f17 G k al1 al2 K
  | _ => none
theorem s17 {R : Type} {G : ORC R} {k : Nat} (hG : Sound Try.prog TAB G) (args : List V) (K : List V → Option R) (r : R) (h : g17 G k args K = some r) : ∃ o, CallOK Try.prog TAB.env 17 args o ∧ K o = some r := by
  unfold g17 at h
  split at h
  · rw [← f17_is] at h
    exact callF_sound (f := 17) TAB_chk MO hG Try.func17 (sg := S17) (by kernel_rfl) (by kernel_rfl) (la17 G k) h
  · cases h
end Go.Proofs.Ytdfjodnkplbffaa.Vm
open Go Go.VM
set_option linter.unusedVariables false
set_option maxRecDepth 100000
set_option maxHeartbeats 4000000
namespace Go.Proofs.Ytdfjodnkplbffaa.Vm
/-! ### cotillion/cotillionlaw16.named: function 15 -/
def L15 {R : Type} (_ : ORC R) (_ : Nat) : Nat → St → (Ex → St → Option R) → Option R := fun _ _ _ => none
def f15 {R : Type} (G : ORC R) (k : Nat)  (K : List V → Option R) : Option R :=
  (G 35 [(.agg [(.str ⟨#[]⟩), (.int .i64 0), (.int .i64 0), (.sl 3 []), (.sl 3 []), (.sl 3 []), (.sl 7 [(.agg [(.int .i64 1), (.str ⟨#[105, 100, 108, 101]⟩), (.sl 8 []), (.sl 8 []), (.sl 5 []), (.sl 7 []), (.int .i64 0)]), (.agg [(.int .i64 1), (.str ⟨#[98, 117, 115, 121]⟩), (.sl 8 []), (.sl 8 []), (.sl 5 []), (.sl 7 []), (.int .i64 0)])]), (.int .i64 0)])] fun o1 => (uL 7 o1 fun l3 r2 => (unNil r2 (K [(.agg [(.sl 1 [(.str ⟨#[120]⟩), (.str ⟨#[121]⟩)]), (.sl 1 [(.str ⟨#[112]⟩), (.str ⟨#[113]⟩)]), (.sl 1 [(.str ⟨#[116]⟩)]), (.sl 1 [(.str ⟨#[105, 100, 108, 101]⟩), (.str ⟨#[98, 117, 115, 121]⟩)])]), (.agg [(.sl 1 [(.str ⟨#[120]⟩), (.str ⟨#[121]⟩)]), (.sl 1 [(.str ⟨#[112]⟩), (.str ⟨#[113]⟩)]), (.sl 1 [(.str ⟨#[116]⟩)]), (.sl 7 l3)]), (.agg [(.sl 1 [(.str ⟨#[120]⟩), (.str ⟨#[121]⟩)]), (.sl 1 [(.str ⟨#[112]⟩), (.str ⟨#[113]⟩)]), (.sl 1 [(.str ⟨#[116]⟩)]), (.sl 7 l3)])]))))
theorem f15_is {R : Type} (G : ORC R) (k : Nat) (K : List V → Option R)  :
    callF (TAB.env 15) G (L15 G k) Try.f15 S15 [] K = f15 G k  K := by kernel_rfl
theorem lo15 : loopsOf (bodyOf Try.f15) = [] := by kernel_rfl
theorem la15 {R : Type} (G : ORC R) (k : Nat) : LoopsAre (TAB.env 15) G (L15 G k) (bodyOf Try.f15) :=
  loopsAre_of (by rw [lo15]; intro p hp; cases hp)
def g15 {R : Type} (G : ORC R) (k : Nat) (args : List V) (K : List V → Option R) : Option R := match args with
  | [] => f15 G k  K
  | _ => none
theorem s15 {R : Type} {G : ORC R} {k : Nat} (hG : Sound Try.prog TAB G) (args : List V) (K : List V → Option R) (r : R) (h : g15 G k args K = some r) : ∃ o, CallOK Try.prog TAB.env 15 args o ∧ K o = some r := by
  unfold g15 at h
  split at h
  · rw [← f15_is] at h
    exact callF_sound (f := 15) TAB_chk MO hG Try.func15 (sg := S15) (by kernel_rfl) (by kernel_rfl) (la15 G k) h
  · cases h
end Go.Proofs.Ytdfjodnkplbffaa.Vm
open Go Go.VM
set_option linter.unusedVariables false
set_option linter.unusedSimpArgs false
set_option maxRecDepth 100000
set_option maxHeartbeats 8000000
namespace Go.Proofs.Ytdfjodnkplbffaa.Vm
section
variable {R : Type} {G : ORC R} {k : Nat} {K : List V → Option R}
theorem allI_ins {op a n : Int} : InsS (ins op a n) := ⟨op, a, n, ⟨#[]⟩, rfl⟩
theorem andX_all {q : Nat} {E0 E1 : List V} (h0 : AllI E0) (h1 : AllI E1) : AllI (andX q E0 E1) := by
  intro v hv
  simp only [andX, List.mem_append, List.mem_cons, List.not_mem_nil, or_false] at hv
  rcases hv with h | h | h | h | h | h | h
  · exact h0 v h
  · rw [h]; exact allI_ins
  · exact h1 v h
  · rw [h]; exact allI_ins
  · rw [h]; exact allI_ins
  · rw [h]; exact allI_ins
  · rw [h]; exact allI_ins
theorem orX_all {q : Nat} {E0 E1 : List V} (h0 : AllI E0) (h1 : AllI E1) : AllI (orX q E0 E1) := by
  intro v hv
  simp only [orX, List.mem_append, List.mem_cons, List.not_mem_nil, or_false] at hv
  rcases hv with (h | h | h | h) | h | h | h | h | h
  · exact h0 v h
  · rw [h]; exact allI_ins
  · rw [h]; exact allI_ins
  · rw [h]; exact allI_ins
  · exact h1 v h
  · rw [h]; exact allI_ins
  · rw [h]; exact allI_ins
  · rw [h]; exact allI_ins
  · rw [h]; exact allI_ins
theorem allI_one {op a n : Int} : AllI [ins op a n] := fun v hv => by rw [List.mem_singleton] at hv; rw [hv]; exact allI_ins
theorem allI_ap {a b : List V} (ha : AllI a) (hb : AllI b) : AllI (a ++ b) := fun v hv => (List.mem_append.1 hv).elim (ha v) (hb v)
theorem cE_all {N : Nms} : ∀ {d at_ : Nat} {e : V}, ExprS d e → AllI (cE N d at_ e)
  | 0, _, _, h => h.elim
  | d + 1, at_, e, h => by
    obtain ⟨kind, n, nm, kids, rfl, x1, x2, x3, x4, x5, x6, x7⟩ := h
    unfold cE
    split
    · exact allI_one
    split
    · exact allI_one
    split
    · exact allI_one
    split
    · exact allI_one
    split
    · rename_i a
      exact allI_ap (cE_all (x6 a (by simp))) allI_one
    · rename_i a b
      have h1 := cE_all (N := N) (at_ := at_) (x6 a (by simp))
      have h2 := fun q => cE_all (N := N) (at_ := q) (x6 b (by simp))
      dsimp only
      split
      · exact andX_all h1 (h2 _)
      split
      · exact orX_all h1 (h2 _)
      · exact allI_ap (allI_ap h1 (h2 _)) allI_one
    · intro v hv; simp at hv
def SameC (G : ORC R) : Prop := ∀ (c : List V) (K : List V → Option R), AllI c → c.length ≤ 9999 → W (fun o => o = [.bool true]) K (G 17 [.sl 4 c, .sl 4 c] K)
theorem samec_loop {Q : List V → Prop} {K : List V → Option R} {Ko : Unit → Option R} {Kr : Bool → Option R} {c : List V} (hc : AllI c) (hl : c.length ≤ 9999) (hKo : W Q K (Ko ())) :
    ∀ (j m : Nat), c.length - m < j → m ≤ c.length → W Q K (l17_0g G k Ko Kr j c c m)
  | 0, m, h1, h2 => by omega
  | j + 1, m, h1, h2 => by
    show W Q K (b17_0 G k (l17_0g G k Ko Kr j) Ko Kr c c m)
    unfold b17_0
    refine W_dec (fun h => ?_) (fun h => hKo)
    obtain ⟨v, hv⟩ : ∃ v, c[m]? = some v := ⟨_, List.getElem?_eq_getElem (by omega)⟩
    obtain ⟨op, a, n, s, rfl⟩ := hc v (List.mem_of_getElem? hv)
    refine W_at (by omega) (by rw [Int.toNat_natCast]; exact hv) (W_asAgg ?_)
    refine W_at (by omega) (by rw [Int.toNat_natCast]; exact hv) (W_asAgg ?_)
    (repeat (with_reducible (first | (refine W_uI ?_) | (refine W_uS ?_) | (refine W_uL ?_) | (refine W_uA ?_) | (refine W_uB ?_) | (refine W_aI ?_) | (refine W_aL ?_) | (refine W_ca3 ?_) | (refine W_ce3 ?_) | (refine W_ca4 ?_) | (refine W_ce4 ?_) | (refine W_ca5 ?_) | (refine W_ce5 ?_) | (refine W_ca6 ?_) | (refine W_ce6 ?_) | (refine W_ca7 ?_) | (refine W_ce7 ?_) | (refine W_ca8 ?_) | (refine W_ce8 ?_) | (refine W_nd7 ?_) | (refine W_unCons ?_) | (refine W_unNil ?_) | (refine W_asInt ?_) | (refine W_asBool ?_) | (refine W_asStr ?_) | (refine W_asSl ?_) | (refine W_asAgg ?_) | (refine W_kd ?_) | (refine W_z ?_))))
    refine W_and ?_
    (repeat (with_reducible (first | (refine W_uI ?_) | (refine W_uS ?_) | (refine W_uL ?_) | (refine W_uA ?_) | (refine W_uB ?_) | (refine W_aI ?_) | (refine W_aL ?_) | (refine W_ca3 ?_) | (refine W_ce3 ?_) | (refine W_ca4 ?_) | (refine W_ce4 ?_) | (refine W_ca5 ?_) | (refine W_ce5 ?_) | (refine W_ca6 ?_) | (refine W_ce6 ?_) | (refine W_ca7 ?_) | (refine W_ce7 ?_) | (refine W_ca8 ?_) | (refine W_ce8 ?_) | (refine W_nd7 ?_) | (refine W_unCons ?_) | (refine W_unNil ?_) | (refine W_asInt ?_) | (refine W_asBool ?_) | (refine W_asStr ?_) | (refine W_asSl ?_) | (refine W_asAgg ?_) | (refine W_kd ?_) | (refine W_z ?_))))
    refine W_and ?_
    (repeat (with_reducible (first | (refine W_uI ?_) | (refine W_uS ?_) | (refine W_uL ?_) | (refine W_uA ?_) | (refine W_uB ?_) | (refine W_aI ?_) | (refine W_aL ?_) | (refine W_ca3 ?_) | (refine W_ce3 ?_) | (refine W_ca4 ?_) | (refine W_ce4 ?_) | (refine W_ca5 ?_) | (refine W_ce5 ?_) | (refine W_ca6 ?_) | (refine W_ce6 ?_) | (refine W_ca7 ?_) | (refine W_ce7 ?_) | (refine W_ca8 ?_) | (refine W_ce8 ?_) | (refine W_nd7 ?_) | (refine W_unCons ?_) | (refine W_unNil ?_) | (refine W_asInt ?_) | (refine W_asBool ?_) | (refine W_asStr ?_) | (refine W_asSl ?_) | (refine W_asAgg ?_) | (refine W_kd ?_) | (refine W_z ?_))))
    refine W_and ?_
    (repeat (with_reducible (first | (refine W_uI ?_) | (refine W_uS ?_) | (refine W_uL ?_) | (refine W_uA ?_) | (refine W_uB ?_) | (refine W_aI ?_) | (refine W_aL ?_) | (refine W_ca3 ?_) | (refine W_ce3 ?_) | (refine W_ca4 ?_) | (refine W_ce4 ?_) | (refine W_ca5 ?_) | (refine W_ce5 ?_) | (refine W_ca6 ?_) | (refine W_ce6 ?_) | (refine W_ca7 ?_) | (refine W_ce7 ?_) | (refine W_ca8 ?_) | (refine W_ce8 ?_) | (refine W_nd7 ?_) | (refine W_unCons ?_) | (refine W_unNil ?_) | (refine W_asInt ?_) | (refine W_asBool ?_) | (refine W_asStr ?_) | (refine W_asSl ?_) | (refine W_asAgg ?_) | (refine W_kd ?_) | (refine W_z ?_))))
    refine W_chk' (by simp) ?_
    rw [wrap_id (n := (m : Int) + 1) (by omega)]
    exact samec_loop hc hl hKo j (m + 1) (by omega) (by omega)
theorem samec_ok (hk : 10000 ≤ k) : SameC (fun _ args (K : List V → Option R) => g17 G k args K) := by
  intro c K hc hl
  show W _ K (f17 G k c c K)
  unfold f17
  refine W_chk' (by simp) ?_
  unfold l17_0
  exact samec_loop (Q := fun o => o = [.bool true]) (K := K) (Ko := fun _ => K [.bool true]) (Kr := fun x => K [.bool x]) hc hl (W_ret rfl) k 0 (by omega) (by omega)
end
end Go.Proofs.Ytdfjodnkplbffaa.Vm
open Go Go.VM
set_option linter.unusedVariables false
set_option linter.unusedSimpArgs false
set_option maxRecDepth 100000
set_option maxHeartbeats 8000000
namespace Go.Proofs.Ytdfjodnkplbffaa.Vm
section
variable {R : Type} {G : ORC R} {k : Nat} {K : List V → Option R}
def nd0 : List Nd := [⟨2, -1, 2, 1, -1, -1, ⟨#[]⟩⟩, ⟨1, 0, 1, -1, -1, -1, ⟨#[105, 100, 108, 101]⟩⟩, ⟨1, 0, 2, -1, -1, -1, ⟨#[98, 117, 115, 121]⟩⟩]
def N0 : Nms := ⟨[.str ⟨#[120]⟩, .str ⟨#[121]⟩], [.str ⟨#[112]⟩, .str ⟨#[113]⟩], [.str ⟨#[116]⟩], nd0⟩
def scS : List V := [.str ⟨#[105, 100, 108, 101]⟩, .str ⟨#[98, 117, 115, 121]⟩]
def scV : V := .agg [.sl 1 N0.a, .sl 1 N0.p, .sl 1 N0.t, .sl 1 scS]
def NamedX (G : ORC R) : Prop := ∀ K : List V → Option R, G 15 [] K = K [scV, N0.v, N0.v]
def KnC (G : ORC R) : Prop := ∀ K : List V → Option R, G 14 [] K = K [.bool true]
theorem strs1 {l : List V} (hl : l.length ≤ 100) (h : ∀ v ∈ l, ∃ s, v = .str s ∧ StrS s) : StrsS 100 l := ⟨hl, h⟩
theorem N0_ok : N0.ok := by
  refine ⟨⟨by decide, ?_⟩, ⟨by decide, ?_⟩, ⟨by decide, ?_⟩, by decide, ?_, ?_⟩
  · intro v hv
    simp only [N0, List.mem_cons, List.not_mem_nil, or_false] at hv
    rcases hv with rfl | rfl
    · exact ⟨_, rfl, by unfold StrS; decide⟩
    · exact ⟨_, rfl, by unfold StrS; decide⟩
  · intro v hv
    simp only [N0, List.mem_cons, List.not_mem_nil, or_false] at hv
    rcases hv with rfl | rfl
    · exact ⟨_, rfl, by unfold StrS; decide⟩
    · exact ⟨_, rfl, by unfold StrS; decide⟩
  · intro v hv
    simp only [N0, List.mem_cons, List.not_mem_nil, or_false] at hv
    rcases hv with rfl
    exact ⟨_, rfl, by unfold StrS; decide⟩
  · intro n hn
    simp only [N0, nd0, List.getElem?_cons_zero, Option.some.injEq] at hn
    subst hn; rw [ba_toList]
  · intro j n hn hj
    match j, hj with
    | 1, _ => simp [N0, nd0] at hn; subst hn; rw [ba_toList]; simp
    | 2, _ => simp [N0, nd0] at hn; subst hn; rw [ba_toList]; simp
    | j + 3, _ => simp [N0, nd0] at hn
theorem knc_go (hKn : KnC G) : W (fun o => o = [.bool true]) K (G 14 [] fun o => uB o fun b r => unNil r (K [.bool b])) := by
  rw [hKn]; exact W_uB (W_unNil (W_ret rfl))
end
end Go.Proofs.Ytdfjodnkplbffaa.Vm
open Go Go.VM
set_option linter.unusedVariables false
set_option linter.unusedSimpArgs false
set_option maxRecDepth 100000
set_option maxHeartbeats 8000000
namespace Go.Proofs.Ytdfjodnkplbffaa.Vm
section
/-- The code of an act's number. -/
def cX (N : Nms) (at_ : Nat) : List V → List V
  | [] => [ins 1 0 0]
  | e :: _ => cE N 3 at_ e
/-- The codes of a row, one behind the other. -/
def cR (F : Nat → V → List V) : Nat → List V → List V
  | _, [] => []
  | at_, a :: r => F at_ a ++ cR F (at_ + (F at_ a).length) r
def loopX (at_ : Nat) (n : Int) (B : List V) : List V := ins 25 (at_ + B.length + 2 : Nat) n :: (B ++ [ins 26 at_ 0])
def ifX (at_ : Nat) (E B : List V) : List V := E ++ ins 24 (at_ + E.length + 1 + B.length : Nat) 0 :: B
def elX (at_ : Nat) (E B C : List V) : List V := E ++ ins 24 (at_ + E.length + 1 + B.length + 1 : Nat) 0 :: (B ++ ins 23 (at_ + E.length + 1 + B.length + 1 + C.length : Nat) 0 :: C)
/-- A choice's code. -/
def chX (F : Nat → V → List V) (at_ : Nat) (E th : List V) : List V → List V
  | [] => ifX at_ E (cR F (at_ + E.length + 1) th)
  | e :: r => elX at_ E (cR F (at_ + E.length + 1) th) (cR F (at_ + E.length + 1 + (cR F (at_ + E.length + 1) th).length + 1) (e :: r))
/-- An act's code, from a place on. -/
def cA (N : Nms) : Nat → Nat → V → List V
  | d + 1, at_, .agg [.int _ kind, .str nm, .str ev, .sl _ x, .int _ n, .sl _ th, .sl _ el, _] =>
    if kind = 1 then cX N at_ x ++ [ins 18 (plN N.a nm) 0] else if kind = 2 then cX N at_ x ++ [insS 19 0 0 ev] else if kind = 3 then cX N at_ x ++ [insS 20 (plN N.p nm) 0 ev]
    else if kind = 4 then cX N at_ x ++ [ins 21 (plN N.t nm) 0] else if kind = 5 then [ins 22 (plN N.t nm) 0]
    else if kind = 7 then loopX at_ n (cR (cA N d) (at_ + 1) th)
    else chX (cA N d) at_ (cX N at_ x) th el
  | _, _, _ => []
/-- Lengths at most. -/
def ca : Nat → Nat
  | 0 => 0
  | d + 1 => ce 3 + 2 + 4 * ca d
theorem loopX_len {a : Nat} {n : Int} {B : List V} : (loopX a n B).length = B.length + 2 := by simp [loopX]
theorem ifX_len {a : Nat} {E B : List V} : (ifX a E B).length = E.length + B.length + 1 := by simp [ifX]; omega
theorem elX_len {a : Nat} {E B C : List V} : (elX a E B C).length = E.length + B.length + C.length + 2 := by simp [elX]; omega
theorem ce3 : 1 ≤ ce 3 := by decide
theorem cX_len {N : Nms} {at_ : Nat} {x : List V} (h : ∀ e ∈ x, ExprS 3 e) : (cX N at_ x).length ≤ ce 3 := by
  cases x with
  | nil => exact ce3
  | cons e r => exact cE_len (h e List.mem_cons_self)
theorem cR_len {F : Nat → V → List V} {m : Nat} : ∀ {l : List V} {at_ : Nat}, (∀ q, ∀ a ∈ l, (F q a).length ≤ m) → (cR F at_ l).length ≤ l.length * m
  | [], _, _ => by simp [cR]
  | a :: r, at_, h => by
    have h1 := h at_ a List.mem_cons_self
    have h2 := cR_len (F := F) (l := r) (at_ := at_ + (F at_ a).length) fun q a ha => h q a (List.mem_cons_of_mem _ ha)
    rw [cR, List.length_append, List.length_cons, Nat.succ_mul]; omega
theorem cA_len {N : Nms} : ∀ {d at_ : Nat} {a : V}, ActS d a → (cA N d at_ a).length ≤ ca d
  | 0, _, _, h => h.elim
  | d + 1, at_, a, h => by
    obtain ⟨kind, nm, ev, x, n, th, el, rfl, x1, x2, x3, x4, x5, x6, x7, x8, x9, x10, x11, x12⟩ := h
    have hca : ca (d + 1) = ce 3 + 2 + 4 * ca d := rfl
    have lx := cX_len (N := N) (at_ := at_) x7
    have lt := fun q => cR_len (F := cA N d) (m := ca d) (l := th) (at_ := q) fun q a ha => cA_len (x11 a ha)
    have le := fun q => cR_len (F := cA N d) (m := ca d) (l := el) (at_ := q) fun q a ha => cA_len (x12 a ha)
    have mt : th.length * ca d ≤ 2 * ca d := Nat.mul_le_mul_right _ x9
    have me : el.length * ca d ≤ 2 * ca d := Nat.mul_le_mul_right _ x10
    have := ce3
    unfold cA
    split
    · simp; omega
    split
    · simp; omega
    split
    · simp; omega
    split
    · simp; omega
    split
    · simp; omega
    split
    · rw [loopX_len]; have := lt (at_ + 1); omega
    have l1 := lt (at_ + (cX N at_ x).length + 1)
    have l2 := le (at_ + (cX N at_ x).length + 1 + (cR (cA N d) (at_ + (cX N at_ x).length + 1) th).length + 1)
    cases el with
    | nil => rw [chX, ifX_len]; omega
    | cons e r => rw [chX, elX_len]; omega
theorem cBl_len {N : Nms} {d at_ : Nat} {l : List V} (h : BlockS d l) : (cR (cA N d) at_ l).length ≤ 2 * ca d :=
  Nat.le_trans (cR_len (m := ca d) fun q a ha => cA_len (h.2 a ha)) (Nat.mul_le_mul_right _ h.1)
theorem allS_one {op a n : Int} {s : ByteArray} : AllI [insS op a n s] := fun v hv => by rw [List.mem_singleton] at hv; rw [hv]; exact ⟨op, a, n, s, rfl⟩
theorem cX_all {N : Nms} {at_ : Nat} {x : List V} (h : ∀ e ∈ x, ExprS 3 e) : AllI (cX N at_ x) := by
  cases x with
  | nil => exact allI_one
  | cons e r => exact cE_all (h e List.mem_cons_self)
theorem cR_all {F : Nat → V → List V} : ∀ {l : List V} {at_ : Nat}, (∀ q, ∀ a ∈ l, AllI (F q a)) → AllI (cR F at_ l)
  | [], _, _ => fun v hv => by simp [cR] at hv
  | a :: r, at_, h => allI_ap (h at_ a List.mem_cons_self) (cR_all fun q a ha => h q a (List.mem_cons_of_mem _ ha))
theorem cA_all {N : Nms} : ∀ {d at_ : Nat} {a : V}, ActS d a → AllI (cA N d at_ a)
  | 0, _, _, h => h.elim
  | d + 1, at_, a, h => by
    obtain ⟨kind, nm, ev, x, n, th, el, rfl, x1, x2, x3, x4, x5, x6, x7, x8, x9, x10, x11, x12⟩ := h
    have ax := cX_all (N := N) (at_ := at_) x7
    have at1 := fun q => cR_all (F := cA N d) (l := th) (at_ := q) fun q a ha => cA_all (x11 a ha)
    have ae1 := fun q => cR_all (F := cA N d) (l := el) (at_ := q) fun q a ha => cA_all (x12 a ha)
    unfold cA
    split
    · exact allI_ap ax allI_one
    split
    · exact allI_ap ax allS_one
    split
    · exact allI_ap ax allS_one
    split
    · exact allI_ap ax allI_one
    split
    · exact allI_one
    split
    · exact allI_cons allI_ins (allI_ap (at1 _) allI_one)
    cases el with
    | nil => exact allI_ap ax (allI_cons allI_ins (at1 _))
    | cons e r => exact allI_ap ax (allI_cons allI_ins (allI_ap (at1 _) (allI_cons allI_ins (ae1 _))))
theorem cBl_all {N : Nms} {d at_ : Nat} {l : List V} (h : BlockS d l) : AllI (cR (cA N d) at_ l) := cR_all fun q a ha => cA_all (h.2 a ha)
end
end Go.Proofs.Ytdfjodnkplbffaa.Vm
open Go Go.VM
set_option linter.unusedVariables false
set_option maxRecDepth 100000
set_option maxHeartbeats 4000000
namespace Go.Proofs.Ytdfjodnkplbffaa.Vm
/-! ### cotillion/cotillionref16.arg: function 86 -/
def L86 {R : Type} (_ : ORC R) (_ : Nat) : Nat → St → (Ex → St → Option R) → Option R := fun _ _ _ => none
def f86 {R : Type} (G : ORC R) (k : Nat) (al1 al2 : List V) (al3 al4 : List V) (al5 al6 : List V) (K : List V → Option R) : Option R :=
  (bif (((List.length al2 : Nat) : Int) == 0) then (bif (decide (List.length al1 + 1 ≤ 1073741824)) then (K [(.sl 4 (al1 ++ [(.agg [(.int .i64 1), (.int .i64 0), (.int .i64 0), (.str ⟨#[]⟩)])]))]) else none) else (bif (decide (0 < ((List.length al2 : Nat) : Int))) then (nthK al2 0 fun e7 => (V.asAgg e7 fun l8 => (G 42 [(.sl 4 al1), (.agg l8), (.agg [(.sl 1 al3), (.sl 1 al4), (.sl 1 al5), (.sl 7 al6)])] fun o9 => (uL 4 o9 fun l11 r10 => (unNil r10 (K [(.sl 4 l11)])))))) else none))
theorem f86_is {R : Type} (G : ORC R) (k : Nat) (K : List V → Option R) (al1 al2 : List V) (al3 al4 : List V) (al5 al6 : List V) :
    callF (TAB.env 86) G (L86 G k) Try.f86 S86 [(.sl 4 al1), (.sl 5 al2), (.agg [(.sl 1 al3), (.sl 1 al4), (.sl 1 al5), (.sl 7 al6)])] K = f86 G k al1 al2 al3 al4 al5 al6 K := by kernel_rfl
theorem lo86 : loopsOf (bodyOf Try.f86) = [] := by kernel_rfl
theorem la86 {R : Type} (G : ORC R) (k : Nat) : LoopsAre (TAB.env 86) G (L86 G k) (bodyOf Try.f86) :=
  loopsAre_of (by rw [lo86]; intro p hp; cases hp)
def g86 {R : Type} (G : ORC R) (k : Nat) (args : List V) (K : List V → Option R) : Option R := match args with
  | [(.sl 4 al1), (.sl 5 al2), (.agg [(.sl 1 al3), (.sl 1 al4), (.sl 1 al5), (.sl 7 al6)])] => f86 G k al1 al2 al3 al4 al5 al6 K
  | _ => none
theorem s86 {R : Type} {G : ORC R} {k : Nat} (hG : Sound Try.prog TAB G) (args : List V) (K : List V → Option R) (r : R) (h : g86 G k args K = some r) : ∃ o, CallOK Try.prog TAB.env 86 args o ∧ K o = some r := by
  unfold g86 at h
  split at h
  · rw [← f86_is] at h
    exact callF_sound (f := 86) TAB_chk MO hG Try.func86 (sg := S86) (by kernel_rfl) (by kernel_rfl) (la86 G k) h
  · cases h
end Go.Proofs.Ytdfjodnkplbffaa.Vm
open Go Go.VM
set_option linter.unusedVariables false
set_option maxRecDepth 100000
set_option maxHeartbeats 4000000
namespace Go.Proofs.Ytdfjodnkplbffaa.Vm
/-! ### cotillion/cotillionref16.act: function 54 -/
def L54 {R : Type} (_ : ORC R) (_ : Nat) : Nat → St → (Ex → St → Option R) → Option R := fun _ _ _ => none
def f54 {R : Type} (G : ORC R) (k : Nat) (al1 : List V) (ai2 : Int) (as3 as4 : ByteArray) (al5 : List V) (ai6 : Int) (al7 al8 : List V) (ai9 : Int) (al10 al11 : List V) (al12 al13 : List V) (K : List V → Option R) : Option R :=
  (bif (ai2 == 1) then (G 86 [(.sl 4 al1), (.sl 5 al5), (.agg [(.sl 1 al10), (.sl 1 al11), (.sl 1 al12), (.sl 7 al13)])] fun o14 => (uL 4 o14 fun l16 r15 => (unNil r15 (G 61 [(.sl 1 al10), (.str as3)] fun o17 => (uI .i64 o17 fun n19 r18 => (unNil r18 (bif (decide (List.length l16 + 1 ≤ 1073741824)) then (K [(.sl 4 (l16 ++ [(.agg [(.int .i64 18), (.int .i64 n19), (.int .i64 0), (.str ⟨#[]⟩)])]))]) else none))))))) else (bif (ai2 == 2) then (G 86 [(.sl 4 al1), (.sl 5 al5), (.agg [(.sl 1 al10), (.sl 1 al11), (.sl 1 al12), (.sl 7 al13)])] fun o20 => (uL 4 o20 fun l22 r21 => (unNil r21 (bif (decide (List.length l22 + 1 ≤ 1073741824)) then (K [(.sl 4 (l22 ++ [(.agg [(.int .i64 19), (.int .i64 0), (.int .i64 0), (.str as4)])]))]) else none)))) else (bif (ai2 == 3) then (G 86 [(.sl 4 al1), (.sl 5 al5), (.agg [(.sl 1 al10), (.sl 1 al11), (.sl 1 al12), (.sl 7 al13)])] fun o23 => (uL 4 o23 fun l25 r24 => (unNil r24 (G 61 [(.sl 1 al11), (.str as3)] fun o26 => (uI .i64 o26 fun n28 r27 => (unNil r27 (bif (decide (List.length l25 + 1 ≤ 1073741824)) then (K [(.sl 4 (l25 ++ [(.agg [(.int .i64 20), (.int .i64 n28), (.int .i64 0), (.str as4)])]))]) else none))))))) else (bif (ai2 == 4) then (G 86 [(.sl 4 al1), (.sl 5 al5), (.agg [(.sl 1 al10), (.sl 1 al11), (.sl 1 al12), (.sl 7 al13)])] fun o29 => (uL 4 o29 fun l31 r30 => (unNil r30 (G 61 [(.sl 1 al12), (.str as3)] fun o32 => (uI .i64 o32 fun n34 r33 => (unNil r33 (bif (decide (List.length l31 + 1 ≤ 1073741824)) then (K [(.sl 4 (l31 ++ [(.agg [(.int .i64 21), (.int .i64 n34), (.int .i64 0), (.str ⟨#[]⟩)])]))]) else none))))))) else (bif (ai2 == 5) then (G 61 [(.sl 1 al12), (.str as3)] fun o35 => (uI .i64 o35 fun n37 r36 => (unNil r36 (bif (decide (List.length al1 + 1 ≤ 1073741824)) then (K [(.sl 4 (al1 ++ [(.agg [(.int .i64 22), (.int .i64 n37), (.int .i64 0), (.str ⟨#[]⟩)])]))]) else none)))) else (bif (ai2 == 7) then (bif (decide (List.length al1 + 1 ≤ 1073741824)) then (G 40 [(.sl 4 (al1 ++ [(.agg [(.int .i64 25), (.int .i64 0), (.int .i64 ai6), (.str ⟨#[]⟩)])])), (.sl 8 al7), (.agg [(.sl 1 al10), (.sl 1 al11), (.sl 1 al12), (.sl 7 al13)])] fun o38 => (uL 4 o38 fun l40 r39 => (unNil r39 (bif (decide (List.length l40 + 1 ≤ 1073741824)) then (bif ((decide (0 ≤ ((List.length al1 : Nat) : Int))) && (decide (((List.length al1 : Nat) : Int) < ((List.length (l40 ++ [(.agg [(.int .i64 26), (.int .i64 ((List.length al1 : Nat) : Int)), (.int .i64 0), (.str ⟨#[]⟩)])]) : Nat) : Int)))) then (nthK (l40 ++ [(.agg [(.int .i64 26), (.int .i64 ((List.length al1 : Nat) : Int)), (.int .i64 0), (.str ⟨#[]⟩)])]) (Int.toNat ((List.length al1 : Nat) : Int)) fun e41 => (ca4 e41 fun c42 c43 c44 c45 => (K [(.sl 4 (List.set (l40 ++ [(.agg [(.int .i64 26), (.int .i64 ((List.length al1 : Nat) : Int)), (.int .i64 0), (.str ⟨#[]⟩)])]) (Int.toNat ((List.length al1 : Nat) : Int)) (.agg [c42, (.int .i64 ((List.length (l40 ++ [(.agg [(.int .i64 26), (.int .i64 ((List.length al1 : Nat) : Int)), (.int .i64 0), (.str ⟨#[]⟩)])]) : Nat) : Int)), c44, c45])))]))) else none) else none)))) else none) else (bif (decide (0 < ((List.length al5 : Nat) : Int))) then (nthK al5 0 fun e46 => (V.asAgg e46 fun l47 => (G 42 [(.sl 4 al1), (.agg l47), (.agg [(.sl 1 al10), (.sl 1 al11), (.sl 1 al12), (.sl 7 al13)])] fun o48 => (uL 4 o48 fun l50 r49 => (unNil r49 (bif (decide (List.length l50 + 1 ≤ 1073741824)) then (G 40 [(.sl 4 (l50 ++ [(.agg [(.int .i64 24), (.int .i64 0), (.int .i64 0), (.str ⟨#[]⟩)])])), (.sl 8 al7), (.agg [(.sl 1 al10), (.sl 1 al11), (.sl 1 al12), (.sl 7 al13)])] fun o51 => (uL 4 o51 fun l53 r52 => (unNil r52 (bif (decide (((List.length al8 : Nat) : Int) > 0)) then (bif (decide (List.length l53 + 1 ≤ 1073741824)) then (bif ((decide (0 ≤ ((List.length l50 : Nat) : Int))) && (decide (((List.length l50 : Nat) : Int) < ((List.length (l53 ++ [(.agg [(.int .i64 23), (.int .i64 0), (.int .i64 0), (.str ⟨#[]⟩)])]) : Nat) : Int)))) then (nthK (l53 ++ [(.agg [(.int .i64 23), (.int .i64 0), (.int .i64 0), (.str ⟨#[]⟩)])]) (Int.toNat ((List.length l50 : Nat) : Int)) fun e54 => (ca4 e54 fun c55 c56 c57 c58 => (G 40 [(.sl 4 (List.set (l53 ++ [(.agg [(.int .i64 23), (.int .i64 0), (.int .i64 0), (.str ⟨#[]⟩)])]) (Int.toNat ((List.length l50 : Nat) : Int)) (.agg [c55, (.int .i64 ((List.length (l53 ++ [(.agg [(.int .i64 23), (.int .i64 0), (.int .i64 0), (.str ⟨#[]⟩)])]) : Nat) : Int)), c57, c58]))), (.sl 8 al8), (.agg [(.sl 1 al10), (.sl 1 al11), (.sl 1 al12), (.sl 7 al13)])] fun o59 => (uL 4 o59 fun l61 r60 => (unNil r60 (bif ((decide (0 ≤ ((List.length l53 : Nat) : Int))) && (decide (((List.length l53 : Nat) : Int) < ((List.length l61 : Nat) : Int)))) then (nthK l61 (Int.toNat ((List.length l53 : Nat) : Int)) fun e62 => (ca4 e62 fun c63 c64 c65 c66 => (K [(.sl 4 (List.set l61 (Int.toNat ((List.length l53 : Nat) : Int)) (.agg [c63, (.int .i64 ((List.length l61 : Nat) : Int)), c65, c66])))]))) else none)))))) else none) else none) else (bif ((decide (0 ≤ ((List.length l50 : Nat) : Int))) && (decide (((List.length l50 : Nat) : Int) < ((List.length l53 : Nat) : Int)))) then (nthK l53 (Int.toNat ((List.length l50 : Nat) : Int)) fun e67 => (ca4 e67 fun c68 c69 c70 c71 => (K [(.sl 4 (List.set l53 (Int.toNat ((List.length l50 : Nat) : Int)) (.agg [c68, (.int .i64 ((List.length l53 : Nat) : Int)), c70, c71])))]))) else none))))) else none)))))) else none)))))))
theorem f54_is {R : Type} (G : ORC R) (k : Nat) (K : List V → Option R) (al1 : List V) (ai2 : Int) (as3 as4 : ByteArray) (al5 : List V) (ai6 : Int) (al7 al8 : List V) (ai9 : Int) (al10 al11 : List V) (al12 al13 : List V) :
    callF (TAB.env 54) G (L54 G k) Try.f54 S54 [(.sl 4 al1), (.agg [(.int .i64 ai2), (.str as3), (.str as4), (.sl 5 al5), (.int .i64 ai6), (.sl 8 al7), (.sl 8 al8), (.int .i64 ai9)]), (.agg [(.sl 1 al10), (.sl 1 al11), (.sl 1 al12), (.sl 7 al13)])] K = f54 G k al1 ai2 as3 as4 al5 ai6 al7 al8 ai9 al10 al11 al12 al13 K := by kernel_rfl
theorem lo54 : loopsOf (bodyOf Try.f54) = [] := by kernel_rfl
theorem la54 {R : Type} (G : ORC R) (k : Nat) : LoopsAre (TAB.env 54) G (L54 G k) (bodyOf Try.f54) :=
  loopsAre_of (by rw [lo54]; intro p hp; cases hp)
def g54 {R : Type} (G : ORC R) (k : Nat) (args : List V) (K : List V → Option R) : Option R := match args with
  | [(.sl 4 al1), (.agg [(.int .i64 ai2), (.str as3), (.str as4), (.sl 5 al5), (.int .i64 ai6), (.sl 8 al7), (.sl 8 al8), (.int .i64 ai9)]), (.agg [(.sl 1 al10), (.sl 1 al11), (.sl 1 al12), (.sl 7 al13)])] => f54 G k al1 ai2 as3 as4 al5 ai6 al7 al8 ai9 al10 al11 al12 al13 K
  | _ => none
theorem s54 {R : Type} {G : ORC R} {k : Nat} (hG : Sound Try.prog TAB G) (args : List V) (K : List V → Option R) (r : R) (h : g54 G k args K = some r) : ∃ o, CallOK Try.prog TAB.env 54 args o ∧ K o = some r := by
  unfold g54 at h
  split at h
  · rw [← f54_is] at h
    exact callF_sound (f := 54) TAB_chk MO hG Try.func54 (sg := S54) (by kernel_rfl) (by kernel_rfl) (la54 G k) h
  · cases h
end Go.Proofs.Ytdfjodnkplbffaa.Vm
open Go Go.VM
set_option linter.unusedVariables false
set_option maxRecDepth 100000
set_option maxHeartbeats 4000000
namespace Go.Proofs.Ytdfjodnkplbffaa.Vm
/-! ### cotillion/cotillionref16.block: function 40 -/
def P40_0h : Pat := { tmps := unds [.var (.sl 4) (.own true), .var (.sl 8) .ro, .undef, .undef, .undef, .stat (.one (.ptr 5 0) .pt), .undef, .var (.int .i64) .pr] 14 [], boxes := nons [] 5 (nons [some [.var (.sl 1) .ro false, .var (.sl 1) .ro false, .var (.sl 1) .ro false, .var (.sl 7) .ro false]] 16 []) }
def P40_0x : Pat := { tmps := unds [.var (.sl 4) (.own true)] 21 [], boxes := nons [] 22 [] }
def b40_0 {R : Type} (G : ORC R) (k : Nat) (X : List V → List V → Int → List V → List V → List V → List V → Option R) (Ko : List V → Option R) (xl7 xl8 : List V) (xi9 : Int) (xl10 xl11 : List V) (xl12 xl13 : List V) : Option R :=
  (bif (decide (xi9 < ((List.length xl8 : Nat) : Int))) then (bif ((decide (0 ≤ xi9)) && (decide (xi9 < ((List.length xl8 : Nat) : Int)))) then (nthK xl8 (Int.toNat xi9) fun e14 => (V.asAgg e14 fun l15 => (G 54 [(.sl 4 xl7), (.agg l15), (.agg [(.sl 1 xl10), (.sl 1 xl11), (.sl 1 xl12), (.sl 7 xl13)])] fun o16 => (uL 4 o16 fun l18 r17 => (unNil r17 (X l18 xl8 (IntKind.i64.wrap (xi9 + 1)) xl10 xl11 xl12 xl13)))))) else none) else (Ko xl7))
def l40_0g {R : Type} (G : ORC R) (k : Nat) (Ko : List V → Option R) : Nat → List V → List V → Int → List V → List V → List V → List V → Option R
  | 0 => fun _ _ _ _ _ _ _ => none
  | j + 1 => b40_0 G k (l40_0g G k Ko j) Ko
def l40_0 {R : Type} (G : ORC R) (k : Nat) (xl7 xl8 : List V) (xi9 : Int) (xl10 xl11 : List V) (xl12 xl13 : List V) (Ko : List V → Option R) : Option R := l40_0g G k Ko k xl7 xl8 xi9 xl10 xl11 xl12 xl13
def rd40_0 {R : Type} (G : ORC R) (k : Nat) (K : Ex → St → Option R) (j : Nat) (vs : List V) : Option R := match vs with
  | [(.sl 4 xl7), (.sl 8 xl8), (.int .i64 xi9), (.sl 1 xl10), (.sl 1 xl11), (.sl 1 xl12), (.sl 7 xl13)] => l40_0g G k (fun yl20 => K .normal (P40_0x.inst [(.sl 4 yl20)])) j xl7 xl8 xi9 xl10 xl11 xl12 xl13
  | _ => none
def L40 {R : Type} (G : ORC R) (k : Nat) : Nat → St → (Ex → St → Option R) → Option R
  | 0, S, K => P40_0h.mat S fun vs => rd40_0 G k K k vs
  | _, _, _ => none
def f40 {R : Type} (G : ORC R) (k : Nat) (al1 al2 : List V) (al3 al4 : List V) (al5 al6 : List V) (K : List V → Option R) : Option R :=
  (l40_0 G k al1 al2 0 al3 al4 al5 al6 (fun yl19 => (K [(.sl 4 yl19)])))
noncomputable def D40_0 : LoopD := { id := 0, body := loopAt 0 (bodyOf Try.f40), head := P40_0h, out := P40_0x, ret := default }
theorem l40_0_is {R : Type} (G : ORC R) (k : Nat) (X : List V → Option R) (K : Ex → St → Option R) (xl7 xl8 : List V) (xi9 : Int) (xl10 xl11 : List V) (xl12 xl13 : List V) :
    roundOf (TAB.env 40) G (L40 G k) D40_0 X K [(.sl 4 xl7), (.sl 8 xl8), (.int .i64 xi9), (.sl 1 xl10), (.sl 1 xl11), (.sl 1 xl12), (.sl 7 xl13)] = b40_0 G k (fun xl7 xl8 xi9 xl10 xl11 xl12 xl13 => X [(.sl 4 xl7), (.sl 8 xl8), (.int .i64 xi9), (.sl 1 xl10), (.sl 1 xl11), (.sl 1 xl12), (.sl 7 xl13)]) (fun yl20 => K .normal (P40_0x.inst [(.sl 4 yl20)])) xl7 xl8 xi9 xl10 xl11 xl12 xl13 := by kernel_rfl
theorem f40_is {R : Type} (G : ORC R) (k : Nat) (K : List V → Option R) (al1 al2 : List V) (al3 al4 : List V) (al5 al6 : List V) :
    callF (TAB.env 40) G (L40 G k) Try.f40 S40 [(.sl 4 al1), (.sl 8 al2), (.agg [(.sl 1 al3), (.sl 1 al4), (.sl 1 al5), (.sl 7 al6)])] K = f40 G k al1 al2 al3 al4 al5 al6 K := by kernel_rfl
theorem li40_0 {R : Type} (G : ORC R) (k : Nat) : LoopIs (TAB.env 40) G (L40 G k) 0 (loopAt 0 (bodyOf Try.f40)) :=
  ⟨D40_0, fun j vs K => rd40_0 G k K j vs, k, rfl, rfl, by kernel_rfl, by kernel_rfl, by kernel_rfl, (fun vs K => by unfold rd40_0; dsimp only; split <;> rfl),
    (fun j vs K r h => by
      unfold rd40_0 at h
      dsimp only at h
      split at h
      · rw [l40_0_is]; exact h
      · cases h), (fun S K r h => h)⟩
theorem lo40 : loopsOf (bodyOf Try.f40) = [(0, loopAt 0 (bodyOf Try.f40))] := by kernel_rfl
theorem la40 {R : Type} (G : ORC R) (k : Nat) : LoopsAre (TAB.env 40) G (L40 G k) (bodyOf Try.f40) :=
  loopsAre_of (by rw [lo40]; intro p hp; simp only [List.mem_cons, List.not_mem_nil, or_false] at hp; subst hp; exact li40_0 G k)
def g40 {R : Type} (G : ORC R) (k : Nat) (args : List V) (K : List V → Option R) : Option R := match args with
  | [(.sl 4 al1), (.sl 8 al2), (.agg [(.sl 1 al3), (.sl 1 al4), (.sl 1 al5), (.sl 7 al6)])] => f40 G k al1 al2 al3 al4 al5 al6 K
  | _ => none
theorem s40 {R : Type} {G : ORC R} {k : Nat} (hG : Sound Try.prog TAB G) (args : List V) (K : List V → Option R) (r : R) (h : g40 G k args K = some r) : ∃ o, CallOK Try.prog TAB.env 40 args o ∧ K o = some r := by
  unfold g40 at h
  split at h
  · rw [← f40_is] at h
    exact callF_sound (f := 40) TAB_chk MO hG Try.func40 (sg := S40) (by kernel_rfl) (by kernel_rfl) (la40 G k) h
  · cases h
end Go.Proofs.Ytdfjodnkplbffaa.Vm
open Go Go.VM
set_option linter.unusedVariables false
set_option maxRecDepth 100000
set_option maxHeartbeats 4000000
namespace Go.Proofs.Ytdfjodnkplbffaa.Vm
/-! ### cotillion/cotillionref16.Block: function 19 -/
def L19 {R : Type} (_ : ORC R) (_ : Nat) : Nat → St → (Ex → St → Option R) → Option R := fun _ _ _ => none
def f19 {R : Type} (G : ORC R) (k : Nat) (al1 al2 : List V) (al3 al4 al5 : List V) (K : List V → Option R) : Option R :=
  (G 40 [(.sl 4 []), (.sl 8 al1), (.agg [(.sl 1 al2), (.sl 1 al3), (.sl 1 al4), (.sl 7 al5)])] fun o6 => (uL 4 o6 fun l8 r7 => (unNil r7 (K [(.sl 4 l8)]))))
theorem f19_is {R : Type} (G : ORC R) (k : Nat) (K : List V → Option R) (al1 al2 : List V) (al3 al4 al5 : List V) :
    callF (TAB.env 19) G (L19 G k) Try.f19 S19 [(.sl 8 al1), (.agg [(.sl 1 al2), (.sl 1 al3), (.sl 1 al4), (.sl 7 al5)])] K = f19 G k al1 al2 al3 al4 al5 K := by kernel_rfl
theorem lo19 : loopsOf (bodyOf Try.f19) = [] := by kernel_rfl
theorem la19 {R : Type} (G : ORC R) (k : Nat) : LoopsAre (TAB.env 19) G (L19 G k) (bodyOf Try.f19) :=
  loopsAre_of (by rw [lo19]; intro p hp; cases hp)
def g19 {R : Type} (G : ORC R) (k : Nat) (args : List V) (K : List V → Option R) : Option R := match args with
  | [(.sl 8 al1), (.agg [(.sl 1 al2), (.sl 1 al3), (.sl 1 al4), (.sl 7 al5)])] => f19 G k al1 al2 al3 al4 al5 K
  | _ => none
theorem s19 {R : Type} {G : ORC R} {k : Nat} (hG : Sound Try.prog TAB G) (args : List V) (K : List V → Option R) (r : R) (h : g19 G k args K = some r) : ∃ o, CallOK Try.prog TAB.env 19 args o ∧ K o = some r := by
  unfold g19 at h
  split at h
  · rw [← f19_is] at h
    exact callF_sound (f := 19) TAB_chk MO hG Try.func19 (sg := S19) (by kernel_rfl) (by kernel_rfl) (la19 G k) h
  · cases h
end Go.Proofs.Ytdfjodnkplbffaa.Vm
open Go Go.VM
set_option linter.unusedVariables false
set_option linter.unusedSimpArgs false
set_option maxRecDepth 100000
set_option maxHeartbeats 8000000
namespace Go.Proofs.Ytdfjodnkplbffaa.Vm
section
variable {R : Type} {G : ORC R} {k : Nat} {K : List V → Option R}
def RArg (G : ORC R) : Prop := ∀ (c x : List V) (N : Nms) (K : List V → Option R), (∀ e ∈ x, ExprS 3 e) → N.ok → c.length + ce 3 ≤ 1000000 → W (fun o => o = [.sl 4 (c ++ cX N c.length x)]) K (G 86 [.sl 4 c, .sl 5 x, N.v] K)
theorem rarg_ok (hE : RX 3 G) : RArg (fun _ args (K : List V → Option R) => g86 G k args K) := by
  intro c x N K hx hN hm
  show W _ K (f86 G k c x N.a N.p N.t (N.nd.map Nd.v) K)
  unfold f86
  unfold RX at hE
  cases x with
  | nil => exact W_eqY rfl (W_yes (by omega) (W_ret rfl))
  | cons e r =>
    have he := hx e List.mem_cons_self
    have he' := he
    obtain ⟨_, _, _, _, rfl, _⟩ := he
    refine W_eqN (by simp; omega) (W_yes (by simp) (W_nth0 (W_asAgg ?_)))
    refine W_call (hE c _ N _ he' hN hm) ?_
    rintro _ rfl
    exact W_uL (W_unNil (W_ret rfl))
def RAct (d : Nat) (G : ORC R) : Prop := ∀ (c : List V) (a : V) (N : Nms) (K : List V → Option R), ActS d a → N.ok → c.length + ca d ≤ 1000000 → W (fun o => o = [.sl 4 (c ++ cA N d c.length a)]) K (G 54 [.sl 4 c, a, N.v] K)
def RBlk (d : Nat) (G : ORC R) : Prop := ∀ (c l : List V) (N : Nms) (K : List V → Option R), BlockS d l → N.ok → c.length + 2 * ca d ≤ 1000000 → W (fun o => o = [.sl 4 (c ++ cR (cA N d) c.length l)]) K (G 40 [.sl 4 c, .sl 8 l, N.v] K)
theorem rblk_loop {d : Nat} (hA : RAct d G) {Q : List V → Prop} {K : List V → Option R} {Ko : List V → Option R} {N : Nms} {l : List V} (hN : N.ok) (hl : BlockS d l) {out : List V} (hKo : W Q K (Ko out)) :
    ∀ (B A : List V) (j : Nat) (c : List V), l = A ++ B → B.length < j → out = c ++ cR (cA N d) c.length B → c.length + B.length * ca d ≤ 1000000 → W Q K (l40_0g G k Ko j c l A.length N.a N.p N.t (N.nd.map Nd.v))
  | B, A, 0, c, h1, h2, h3, h4 => by omega
  | [], A, j + 1, c, h1, h2, h3, h4 => by
    show W Q K (b40_0 G k (l40_0g G k Ko j) Ko c l A.length N.a N.p N.t (N.nd.map Nd.v))
    unfold b40_0
    rw [List.append_nil] at h1
    subst h1
    refine W_no (by omega) ?_
    rw [h3] at hKo
    simpa [cR] using hKo
  | b :: B, A, j + 1, c, h1, h2, h3, h4 => by
    show W Q K (b40_0 G k (l40_0g G k Ko j) Ko c l A.length N.a N.p N.t (N.nd.map Nd.v))
    unfold b40_0
    have hb := hl.2 b (by rw [h1]; simp)
    have lb := cA_len (N := N) (at_ := c.length) hb
    have hlen : l.length = A.length + (B.length + 1) := by rw [h1]; simp
    have h2l := hl.1
    have hget : l[((A.length : Nat) : Int).toNat]? = some b := by rw [Int.toNat_natCast, h1]; simp
    have hA' := hA
    unfold RAct at hA'
    have hb' := hb
    cases d with
    | zero => exact hb.elim
    | succ d =>
    obtain ⟨kind, nm, ev, x, n, th, el, rfl, _⟩ := hb
    rw [List.length_cons, Nat.succ_mul] at h4
    refine W_yes (by omega) (W_at (by omega) hget (W_asAgg ?_))
    refine W_call (hA' c _ N _ hb' hN (by omega)) ?_
    rintro _ rfl
    refine W_uL (W_unNil ?_)
    rw [wrap_id (n := (A.length : Int) + 1) (by omega)]
    have := rblk_loop hA hN hl hKo B (A ++ [V.agg [.int .i64 kind, .str nm, .str ev, .sl 5 x, .int .i64 n, .sl 8 th, .sl 8 el, .int .i64 0]]) j (c ++ cA N (d + 1) c.length (V.agg [.int .i64 kind, .str nm, .str ev, .sl 5 x, .int .i64 n, .sl 8 th, .sl 8 el, .int .i64 0])) (by rw [h1]; simp) (by simp at h2; omega) (by rw [h3, cR, List.length_append, List.append_assoc]) (by rw [List.length_append]; omega)
    simpa using this
theorem rblk_ok {d : Nat} (hk : 1000 ≤ k) (hA : RAct d G) : RBlk d (fun _ args (K : List V → Option R) => g40 G k args K) := by
  intro c l N K hl hN hm
  show W _ K (f40 G k c l N.a N.p N.t (N.nd.map Nd.v) K)
  unfold f40 l40_0
  have h2l := hl.1
  exact rblk_loop (Q := fun o => o = [.sl 4 (c ++ cR (cA N d) c.length l)]) (K := K) (Ko := fun yl => K [.sl 4 yl]) (out := c ++ cR (cA N d) c.length l) hA hN hl (W_ret rfl) l [] k c rfl (by omega) rfl (by have : l.length * ca d ≤ 2 * ca d := Nat.mul_le_mul_right _ hl.1; omega)
theorem ract_ok {d : Nat} (hPl : PlX 61 G) (hE : RX 3 G) (hA : RArg G) (hB : RBlk d G) : RAct (d + 1) (fun _ args (K : List V → Option R) => g54 G k args K) := by
  intro c a N K ha hN hm
  have hlen := cA_len (N := N) (at_ := c.length) ha
  obtain ⟨kind, nm, ev, x, n, th, el, rfl, x1, x2, x3, x4, x5, x6, x7, x8, x9, x10, x11, x12⟩ := ha
  show W _ K (f54 G k c kind nm ev x n th el 0 N.a N.p N.t (N.nd.map Nd.v) K)
  unfold f54
  have hca : ca (d + 1) = ce 3 + 2 + 4 * ca d := rfl
  have hth : BlockS d th := ⟨x9, x11⟩
  have hel : BlockS d el := ⟨x10, x12⟩
  unfold PlX at hPl; unfold RX at hE; unfold RArg at hA; unfold RBlk at hB
  have lx := cX_len (N := N) (at_ := c.length) x7
  have lt := fun q => cBl_len (N := N) (at_ := q) hth
  have le := fun q => cBl_len (N := N) (at_ := q) hel
  refine W_beqI (fun h => ?_) (fun h1 => ?_)
  · refine W_call (hA c x N _ x7 hN (by omega)) ?_
    rintro _ rfl
    refine W_uL (W_unNil ?_)
    refine W_call (hPl _ _ _ hN.1) ?_
    rintro _ rfl
    refine W_uI (W_unNil (W_yes (by (first | (simp only [List.length_append, List.length_cons, List.length_nil]; done) | (simp only [List.length_append, List.length_cons, List.length_nil]; omega))) (W_ret ?_)))
    conv => rhs; unfold cA
    rw [if_pos h, List.append_assoc]; rfl
  refine W_beqI (fun h => ?_) (fun h2 => ?_)
  · refine W_call (hA c x N _ x7 hN (by omega)) ?_
    rintro _ rfl
    refine W_uL (W_unNil (W_yes (by (first | (simp only [List.length_append, List.length_cons, List.length_nil]; done) | (simp only [List.length_append, List.length_cons, List.length_nil]; omega))) (W_ret ?_)))
    conv => rhs; unfold cA
    rw [if_neg h1, if_pos h, List.append_assoc]; rfl
  refine W_beqI (fun h => ?_) (fun h3 => ?_)
  · refine W_call (hA c x N _ x7 hN (by omega)) ?_
    rintro _ rfl
    refine W_uL (W_unNil ?_)
    refine W_call (hPl _ _ _ hN.2.1) ?_
    rintro _ rfl
    refine W_uI (W_unNil (W_yes (by (first | (simp only [List.length_append, List.length_cons, List.length_nil]; done) | (simp only [List.length_append, List.length_cons, List.length_nil]; omega))) (W_ret ?_)))
    conv => rhs; unfold cA
    rw [if_neg h1, if_neg h2, if_pos h, List.append_assoc]; rfl
  refine W_beqI (fun h => ?_) (fun h4 => ?_)
  · refine W_call (hA c x N _ x7 hN (by omega)) ?_
    rintro _ rfl
    refine W_uL (W_unNil ?_)
    refine W_call (hPl _ _ _ hN.2.2.1) ?_
    rintro _ rfl
    refine W_uI (W_unNil (W_yes (by (first | (simp only [List.length_append, List.length_cons, List.length_nil]; done) | (simp only [List.length_append, List.length_cons, List.length_nil]; omega))) (W_ret ?_)))
    conv => rhs; unfold cA
    rw [if_neg h1, if_neg h2, if_neg h3, if_pos h, List.append_assoc]; rfl
  refine W_beqI (fun h => ?_) (fun h5 => ?_)
  · refine W_call (hPl _ _ _ hN.2.2.1) ?_
    rintro _ rfl
    refine W_uI (W_unNil (W_yes (by omega) (W_ret ?_)))
    conv => rhs; unfold cA
    rw [if_neg h1, if_neg h2, if_neg h3, if_neg h4, if_pos h]; rfl
  refine W_beqI (fun h => ?_) (fun h7 => ?_)
  · refine W_yes (by omega) ?_
    refine W_call (hB _ th N _ hth hN (by (first | (simp only [List.length_append, List.length_cons, List.length_nil]; done) | (simp only [List.length_append, List.length_cons, List.length_nil]; omega)))) ?_
    rintro _ rfl
    have hl : ∀ z : V, (c ++ [z]).length = c.length + 1 := fun z => by simp
    rw [hl]
    have lt := lt (c.length + 1)
    generalize hBe : cR (cA N d) (c.length + 1) th = B at lt ⊢
    refine W_uL (W_unNil (W_yes (by (first | (simp only [List.length_append, List.length_cons, List.length_nil]; done) | (simp only [List.length_append, List.length_cons, List.length_nil]; omega))) ?_))
    have e1 : ∀ z w : V, c ++ [z] ++ B ++ [w] = c ++ z :: (B ++ [w]) := fun z w => by simp
    rw [e1]
    refine W_at (by omega) (get_at (by (first | (simp only [Int.toNat_natCast, List.length_append, List.length_cons, List.length_nil, List.length_set]; done) | (simp only [Int.toNat_natCast, List.length_append, List.length_cons, List.length_nil, List.length_set]; omega)))) (W_ca4 ?_)
    rw [set_at (by (first | (simp only [Int.toNat_natCast, List.length_append, List.length_cons, List.length_nil, List.length_set]; done) | (simp only [Int.toNat_natCast, List.length_append, List.length_cons, List.length_nil, List.length_set]; omega)))]
    refine W_ret ?_
    conv => rhs; unfold cA
    rw [if_neg h1, if_neg h2, if_neg h3, if_neg h4, if_neg h5, if_pos h, hBe]
    have e2 : ∀ z w : V, (c ++ z :: (B ++ [w])).length = c.length + B.length + 2 := fun z w => by simp; omega
    rw [e2]; rfl
  have h6 : kind = 6 := by omega
  have hx1 := x8 h6
  obtain ⟨e, rfl⟩ : ∃ e, x = [e] := by
    match x, hx1 with
    | [e], _ => exact ⟨e, rfl⟩
  have he := x7 e (by simp)
  have he' := he
  refine W_yes (by simp) (W_nth0 ?_)
  have fin : cA N (d + 1) c.length (V.agg [.int .i64 kind, .str nm, .str ev, .sl 5 [e], .int .i64 n, .sl 8 th, .sl 8 el, .int .i64 0]) = chX (cA N d) c.length (cE N 3 c.length e) th el := by
    conv => lhs; unfold cA
    rw [if_neg h1, if_neg h2, if_neg h3, if_neg h4, if_neg h5, if_neg h7]; rfl
  have lx' : (cE N 3 c.length e).length ≤ ce 3 := cE_len he
  rw [fin]
  obtain ⟨_, _, _, _, rfl, _⟩ := he
  refine W_asAgg ?_
  refine W_call (hE c _ N _ he' hN (by omega)) ?_
  rintro _ rfl
  generalize hE0 : cE N 3 c.length _ = E at lx' ⊢
  refine W_uL (W_unNil (W_yes (by (first | (simp only [List.length_append, List.length_cons, List.length_nil]; done) | (simp only [List.length_append, List.length_cons, List.length_nil]; omega))) ?_))
  refine W_call (hB _ th N _ hth hN (by (first | (simp only [List.length_append, List.length_cons, List.length_nil]; done) | (simp only [List.length_append, List.length_cons, List.length_nil]; omega)))) ?_
  rintro _ rfl
  have hl : ∀ z : V, (c ++ E ++ [z]).length = c.length + E.length + 1 := fun z => by simp; omega
  rw [hl]
  have lt := lt (c.length + E.length + 1)
  generalize hBe : cR (cA N d) (c.length + E.length + 1) th = B at lt ⊢
  refine W_uL (W_unNil ?_)
  cases el with
  | nil =>
    refine W_no (by simp) ?_
    have e1 : ∀ z : V, c ++ E ++ [z] ++ B = (c ++ E) ++ z :: B := fun z => by simp
    rw [e1]
    refine W_at (by omega) (get_at (by (first | (simp only [Int.toNat_natCast, List.length_append, List.length_cons, List.length_nil, List.length_set]; done) | (simp only [Int.toNat_natCast, List.length_append, List.length_cons, List.length_nil, List.length_set]; omega)))) (W_ca4 ?_)
    rw [set_at (L := c ++ E) (by (first | (simp only [Int.toNat_natCast, List.length_append, List.length_cons, List.length_nil, List.length_set]; done) | (simp only [Int.toNat_natCast, List.length_append, List.length_cons, List.length_nil, List.length_set]; omega)))]
    refine W_ret ?_
    have e2 : ∀ z : V, ((c ++ E) ++ z :: B).length = c.length + E.length + 1 + B.length := fun z => by simp; omega
    rw [e2]
    rw [chX, hBe, ifX, List.append_assoc]; rfl
  | cons e0 r0 =>
    have le := le (c.length + E.length + 1 + B.length + 1)
    rw [chX, hBe]
    refine W_yes (by simp) ?_
    refine W_yes (by (first | (simp only [List.length_append, List.length_cons, List.length_nil]; done) | (simp only [List.length_append, List.length_cons, List.length_nil]; omega))) ?_
    have e1 : ∀ z w : V, c ++ E ++ [z] ++ B ++ [w] = (c ++ E) ++ z :: (B ++ [w]) := fun z w => by simp
    rw [e1]
    refine W_at (by omega) (get_at (by (first | (simp only [Int.toNat_natCast, List.length_append, List.length_cons, List.length_nil, List.length_set]; done) | (simp only [Int.toNat_natCast, List.length_append, List.length_cons, List.length_nil, List.length_set]; omega)))) (W_ca4 ?_)
    rw [set_at (L := c ++ E) (by (first | (simp only [Int.toNat_natCast, List.length_append, List.length_cons, List.length_nil, List.length_set]; done) | (simp only [Int.toNat_natCast, List.length_append, List.length_cons, List.length_nil, List.length_set]; omega)))]
    have e2 : ∀ z w : V, ((c ++ E) ++ z :: (B ++ [w])).length = c.length + E.length + 1 + B.length + 1 := fun z w => by simp; omega
    rw [e2]
    refine W_call (hB _ (e0 :: r0) N _ hel hN (by rw [e2]; omega)) ?_
    rintro _ rfl
    rw [e2]
    generalize hCe : cR (cA N d) (c.length + E.length + 1 + B.length + 1) (e0 :: r0) = C at le ⊢
    refine W_uL (W_unNil ?_)
    have e3 : ∀ z w : V, (c ++ E) ++ z :: (B ++ [w]) ++ C = (c ++ E ++ z :: B) ++ w :: C := fun z w => by simp
    rw [e3]
    have e4 : ((c ++ E ++ [V.agg [.int .i64 24, .int .i64 0, .int .i64 0, .str ⟨#[]⟩]] ++ B).length : Int) = ((c ++ E ++ V.agg [.int .i64 24, .int .i64 0, .int .i64 0, .str ⟨#[]⟩] :: B).length : Nat) := by simp
    first
      | rw [e4]
      | skip
    refine W_at (by omega) (get_at (by (first | (simp only [Int.toNat_natCast, List.length_append, List.length_cons, List.length_nil, List.length_set]; done) | (simp only [Int.toNat_natCast, List.length_append, List.length_cons, List.length_nil, List.length_set]; omega)))) (W_ca4 ?_)
    rw [set_at (L := c ++ E ++ _ :: B) (by (first | (simp only [Int.toNat_natCast, List.length_append, List.length_cons, List.length_nil, List.length_set]; done) | (simp only [Int.toNat_natCast, List.length_append, List.length_cons, List.length_nil, List.length_set]; omega)))]
    refine W_ret ?_
    have e5 : ∀ z w : V, ((c ++ E ++ z :: B) ++ w :: C).length = c.length + E.length + 1 + B.length + 1 + C.length := fun z w => by simp; omega
    rw [e5, elX]
    simp [ins]
def BlX (f : FuncId) (d : Nat) (G : ORC R) : Prop := ∀ (l : List V) (N : Nms) (K : List V → Option R), BlockS d l → N.ok → W (fun o => o = [.sl 4 (cR (cA N d) 0 l)]) K (G f [.sl 8 l, N.v] K)
theorem rblx_ok {d : Nat} (hd : 2 * ca d ≤ 1000000) (hB : RBlk d G) : BlX 19 d (fun _ args (K : List V → Option R) => g19 G k args K) := by
  intro l N K hl hN
  show W _ K (f19 G k l N.a N.p N.t (N.nd.map Nd.v) K)
  unfold f19
  unfold RBlk at hB
  refine W_call (hB [] l N _ hl hN (by simpa using hd)) ?_
  rintro _ rfl
  exact W_uL (W_unNil (W_ret rfl))
end
end Go.Proofs.Ytdfjodnkplbffaa.Vm
open Go Go.VM
set_option linter.unusedVariables false
set_option maxRecDepth 100000
set_option maxHeartbeats 4000000
namespace Go.Proofs.Ytdfjodnkplbffaa.Vm
/-! ### (*cotillion/code.writer).number: function 85 -/
def P85_0h : Pat := { tmps := unds [.stat (.one (.ptr 0 0) .pt), .undef, .undef, .stat (.one (.ptr 4 0) .pt), .undef, .undef, .undef, .var (.sl 5) .ro, .var (.int .i64) .pr, .var (.int .i64) .pr] 13 [], boxes := nons [some [.var (.sl 1) .ro true, .var (.sl 1) .ro true, .var (.sl 1) .ro true, .var (.sl 7) .ro true, .var (.sl 4) (.own true) false], none, none, none, some [.var (.int .i64) .pr false, .var .str .pr false, .var .str .pr false, .var (.sl 5) .ro false, .var (.int .i64) .pr false, .var (.sl 8) .ro false, .var (.sl 8) .ro false, .var (.int .i64) .pr false]] 19 [] }
def P85_0x : Pat := { tmps := unds [.stat (.one (.ptr 0 0) .pt), .undef, .undef, .stat (.one (.ptr 4 0) .pt)] 19 [], boxes := nons [some [.var (.sl 1) .ro true, .var (.sl 1) .ro true, .var (.sl 1) .ro true, .var (.sl 7) .ro true, .var (.sl 4) (.own true) false], none, none, none, some [.var (.int .i64) .pr false, .var .str .pr false, .var .str .pr false, .var (.sl 5) .ro false, .var (.int .i64) .pr false, .var (.sl 8) .ro false, .var (.sl 8) .ro false, .var (.int .i64) .pr false]] 19 [] }
def b85_0 {R : Type} (G : ORC R) (k : Nat) (X : List V → Int → Int → List V → List V → List V → List V → List V → Int → ByteArray → ByteArray → List V → Int → List V → List V → Int → Option R) (Ko : List V → List V → List V → List V → List V → Int → ByteArray → ByteArray → List V → Int → List V → List V → Int → Option R) (xl14 : List V) (xi15 xi16 : Int) (xl17 xl18 : List V) (xl19 xl20 xl21 : List V) (xi22 : Int) (xs23 xs24 : ByteArray) (xl25 : List V) (xi26 : Int) (xl27 xl28 : List V) (xi29 : Int) : Option R :=
  (bif (decide (xi16 < xi15)) then (bif ((decide (0 ≤ xi16)) && (decide (xi16 < ((List.length xl14 : Nat) : Int)))) then (nthK xl14 (Int.toNat xi16) fun e30 => (V.asAgg e30 fun l31 => (ce5 l31 fun c32 c33 c34 c35 c36 => (aI .i64 c32 fun n43 => (aI .i64 c33 fun n44 => (V.asStr c34 fun s45 => (V.asSl c35 fun z46 l47 => (aI .i64 c36 fun n48 => (G 41 [(.agg [(.int .i64 n43), (.int .i64 n44), (.str s45), (.sl z46 l47), (.int .i64 n48)]), (.sl 1 xl17), (.sl 1 xl18), (.sl 1 xl19), (.sl 7 xl20), (.sl 4 xl21)] fun o49 => (uL 4 o49 fun l51 r50 => (unNil r50 (X xl14 xi15 (IntKind.i64.wrap (xi16 + 1)) xl17 xl18 xl19 xl20 l51 xi22 xs23 xs24 xl25 xi26 xl27 xl28 xi29)))))))))))) else none) else (Ko xl17 xl18 xl19 xl20 xl21 xi22 xs23 xs24 xl25 xi26 xl27 xl28 xi29))
def l85_0g {R : Type} (G : ORC R) (k : Nat) (Ko : List V → List V → List V → List V → List V → Int → ByteArray → ByteArray → List V → Int → List V → List V → Int → Option R) : Nat → List V → Int → Int → List V → List V → List V → List V → List V → Int → ByteArray → ByteArray → List V → Int → List V → List V → Int → Option R
  | 0 => fun _ _ _ _ _ _ _ _ _ _ _ _ _ _ _ _ => none
  | j + 1 => b85_0 G k (l85_0g G k Ko j) Ko
def l85_0 {R : Type} (G : ORC R) (k : Nat) (xl14 : List V) (xi15 xi16 : Int) (xl17 xl18 : List V) (xl19 xl20 xl21 : List V) (xi22 : Int) (xs23 xs24 : ByteArray) (xl25 : List V) (xi26 : Int) (xl27 xl28 : List V) (xi29 : Int) (Ko : List V → List V → List V → List V → List V → Int → ByteArray → ByteArray → List V → Int → List V → List V → Int → Option R) : Option R := l85_0g G k Ko k xl14 xi15 xi16 xl17 xl18 xl19 xl20 xl21 xi22 xs23 xs24 xl25 xi26 xl27 xl28 xi29
def rd85_0 {R : Type} (G : ORC R) (k : Nat) (K : Ex → St → Option R) (j : Nat) (vs : List V) : Option R := match vs with
  | [(.sl 5 xl14), (.int .i64 xi15), (.int .i64 xi16), (.sl 1 xl17), (.sl 1 xl18), (.sl 1 xl19), (.sl 7 xl20), (.sl 4 xl21), (.int .i64 xi22), (.str xs23), (.str xs24), (.sl 5 xl25), (.int .i64 xi26), (.sl 8 xl27), (.sl 8 xl28), (.int .i64 xi29)] => l85_0g G k (fun yl68 yl69 yl70 yl71 yl72 yi73 ys74 ys75 yl76 yi77 yl78 yl79 yi80 => K .normal (P85_0x.inst [(.sl 1 yl68), (.sl 1 yl69), (.sl 1 yl70), (.sl 7 yl71), (.sl 4 yl72), (.int .i64 yi73), (.str ys74), (.str ys75), (.sl 5 yl76), (.int .i64 yi77), (.sl 8 yl78), (.sl 8 yl79), (.int .i64 yi80)])) j xl14 xi15 xi16 xl17 xl18 xl19 xl20 xl21 xi22 xs23 xs24 xl25 xi26 xl27 xl28 xi29
  | _ => none
def L85 {R : Type} (G : ORC R) (k : Nat) : Nat → St → (Ex → St → Option R) → Option R
  | 0, S, K => P85_0h.mat S fun vs => rd85_0 G k K k vs
  | _, _, _ => none
def f85 {R : Type} (G : ORC R) (k : Nat) (ai1 : Int) (as2 as3 : ByteArray) (al4 : List V) (ai5 : Int) (al6 al7 : List V) (ai8 : Int) (bl9 bl10 : List V) (bl11 bl12 bl13 : List V) (K : List V → Option R) : Option R :=
  (l85_0 G k al4 ((List.length al4 : Nat) : Int) 0 bl9 bl10 bl11 bl12 bl13 ai1 as2 as3 al4 ai5 al6 al7 ai8 (fun yl52 yl53 yl54 yl55 yl56 yi57 ys58 ys59 yl60 yi61 yl62 yl63 yi64 => (bif (((List.length yl60 : Nat) : Int) == 0) then (G 55 [(.int .i64 0), (.sl 1 yl52), (.sl 1 yl53), (.sl 1 yl54), (.sl 7 yl55), (.sl 4 yl56)] fun o65 => (uL 4 o65 fun l67 r66 => (unNil r66 (K [(.sl 4 l67)])))) else (K [(.sl 4 yl56)]))))
noncomputable def D85_0 : LoopD := { id := 0, body := loopAt 0 (bodyOf Try.f85), head := P85_0h, out := P85_0x, ret := default }
theorem l85_0_is {R : Type} (G : ORC R) (k : Nat) (X : List V → Option R) (K : Ex → St → Option R) (xl14 : List V) (xi15 xi16 : Int) (xl17 xl18 : List V) (xl19 xl20 xl21 : List V) (xi22 : Int) (xs23 xs24 : ByteArray) (xl25 : List V) (xi26 : Int) (xl27 xl28 : List V) (xi29 : Int) :
    roundOf (TAB.env 85) G (L85 G k) D85_0 X K [(.sl 5 xl14), (.int .i64 xi15), (.int .i64 xi16), (.sl 1 xl17), (.sl 1 xl18), (.sl 1 xl19), (.sl 7 xl20), (.sl 4 xl21), (.int .i64 xi22), (.str xs23), (.str xs24), (.sl 5 xl25), (.int .i64 xi26), (.sl 8 xl27), (.sl 8 xl28), (.int .i64 xi29)] = b85_0 G k (fun xl14 xi15 xi16 xl17 xl18 xl19 xl20 xl21 xi22 xs23 xs24 xl25 xi26 xl27 xl28 xi29 => X [(.sl 5 xl14), (.int .i64 xi15), (.int .i64 xi16), (.sl 1 xl17), (.sl 1 xl18), (.sl 1 xl19), (.sl 7 xl20), (.sl 4 xl21), (.int .i64 xi22), (.str xs23), (.str xs24), (.sl 5 xl25), (.int .i64 xi26), (.sl 8 xl27), (.sl 8 xl28), (.int .i64 xi29)]) (fun yl68 yl69 yl70 yl71 yl72 yi73 ys74 ys75 yl76 yi77 yl78 yl79 yi80 => K .normal (P85_0x.inst [(.sl 1 yl68), (.sl 1 yl69), (.sl 1 yl70), (.sl 7 yl71), (.sl 4 yl72), (.int .i64 yi73), (.str ys74), (.str ys75), (.sl 5 yl76), (.int .i64 yi77), (.sl 8 yl78), (.sl 8 yl79), (.int .i64 yi80)])) xl14 xi15 xi16 xl17 xl18 xl19 xl20 xl21 xi22 xs23 xs24 xl25 xi26 xl27 xl28 xi29 := by kernel_rfl
theorem f85_is {R : Type} (G : ORC R) (k : Nat) (K : List V → Option R) (ai1 : Int) (as2 as3 : ByteArray) (al4 : List V) (ai5 : Int) (al6 al7 : List V) (ai8 : Int) (bl9 bl10 : List V) (bl11 bl12 bl13 : List V) :
    callF (TAB.env 85) G (L85 G k) Try.f85 S85 [(.agg [(.int .i64 ai1), (.str as2), (.str as3), (.sl 5 al4), (.int .i64 ai5), (.sl 8 al6), (.sl 8 al7), (.int .i64 ai8)]), (.sl 1 bl9), (.sl 1 bl10), (.sl 1 bl11), (.sl 7 bl12), (.sl 4 bl13)] K = f85 G k ai1 as2 as3 al4 ai5 al6 al7 ai8 bl9 bl10 bl11 bl12 bl13 K := by kernel_rfl
theorem li85_0 {R : Type} (G : ORC R) (k : Nat) : LoopIs (TAB.env 85) G (L85 G k) 0 (loopAt 0 (bodyOf Try.f85)) :=
  ⟨D85_0, fun j vs K => rd85_0 G k K j vs, k, rfl, rfl, by kernel_rfl, by kernel_rfl, by kernel_rfl, (fun vs K => by unfold rd85_0; dsimp only; split <;> rfl),
    (fun j vs K r h => by
      unfold rd85_0 at h
      dsimp only at h
      split at h
      · rw [l85_0_is]; exact h
      · cases h), (fun S K r h => h)⟩
theorem lo85 : loopsOf (bodyOf Try.f85) = [(0, loopAt 0 (bodyOf Try.f85))] := by kernel_rfl
theorem la85 {R : Type} (G : ORC R) (k : Nat) : LoopsAre (TAB.env 85) G (L85 G k) (bodyOf Try.f85) :=
  loopsAre_of (by rw [lo85]; intro p hp; simp only [List.mem_cons, List.not_mem_nil, or_false] at hp; subst hp; exact li85_0 G k)
def g85 {R : Type} (G : ORC R) (k : Nat) (args : List V) (K : List V → Option R) : Option R := match args with
  | [(.agg [(.int .i64 ai1), (.str as2), (.str as3), (.sl 5 al4), (.int .i64 ai5), (.sl 8 al6), (.sl 8 al7), (.int .i64 ai8)]), (.sl 1 bl9), (.sl 1 bl10), (.sl 1 bl11), (.sl 7 bl12), (.sl 4 bl13)] => f85 G k ai1 as2 as3 al4 ai5 al6 al7 ai8 bl9 bl10 bl11 bl12 bl13 K
  | _ => none
theorem s85 {R : Type} {G : ORC R} {k : Nat} (hG : Sound Try.prog TAB G) (args : List V) (K : List V → Option R) (r : R) (h : g85 G k args K = some r) : ∃ o, CallOK Try.prog TAB.env 85 args o ∧ K o = some r := by
  unfold g85 at h
  split at h
  · rw [← f85_is] at h
    exact callF_sound (f := 85) TAB_chk MO hG Try.func85 (sg := S85) (by kernel_rfl) (by kernel_rfl) (la85 G k) h
  · cases h
end Go.Proofs.Ytdfjodnkplbffaa.Vm
open Go Go.VM
set_option linter.unusedVariables false
set_option maxRecDepth 100000
set_option maxHeartbeats 4000000
namespace Go.Proofs.Ytdfjodnkplbffaa.Vm
/-! ### (*cotillion/code.writer).act: function 53 -/
def L53 {R : Type} (_ : ORC R) (_ : Nat) : Nat → St → (Ex → St → Option R) → Option R := fun _ _ _ => none
def f53 {R : Type} (G : ORC R) (k : Nat) (ai1 : Int) (as2 as3 : ByteArray) (al4 : List V) (ai5 : Int) (al6 al7 : List V) (ai8 : Int) (bl9 bl10 : List V) (bl11 bl12 bl13 : List V) (K : List V → Option R) : Option R :=
  (bif (ai1 != 5) then (G 85 [(.agg [(.int .i64 ai1), (.str as2), (.str as3), (.sl 5 al4), (.int .i64 ai5), (.sl 8 al6), (.sl 8 al7), (.int .i64 ai8)]), (.sl 1 bl9), (.sl 1 bl10), (.sl 1 bl11), (.sl 7 bl12), (.sl 4 bl13)] fun o14 => (uL 4 o14 fun l16 r15 => (unNil r15 (bif (ai1 == 1) then (G 57 [(.sl 1 bl9), (.str as2)] fun o17 => (uI .i64 o17 fun n19 r18 => (unNil r18 (G 56 [(.agg [(.int .i64 18), (.int .i64 n19), (.int .i64 0), (.str ⟨#[]⟩)]), (.sl 1 bl9), (.sl 1 bl10), (.sl 1 bl11), (.sl 7 bl12), (.sl 4 l16)] fun o20 => (uI .i64 o20 fun n22 r21 => (uL 4 r21 fun l24 r23 => (unNil r23 (K [(.sl 4 l24)])))))))) else (bif (ai1 == 2) then (G 56 [(.agg [(.int .i64 19), (.int .i64 0), (.int .i64 0), (.str as3)]), (.sl 1 bl9), (.sl 1 bl10), (.sl 1 bl11), (.sl 7 bl12), (.sl 4 l16)] fun o25 => (uI .i64 o25 fun n27 r26 => (uL 4 r26 fun l29 r28 => (unNil r28 (K [(.sl 4 l29)]))))) else (bif (ai1 == 3) then (G 57 [(.sl 1 bl10), (.str as2)] fun o30 => (uI .i64 o30 fun n32 r31 => (unNil r31 (G 56 [(.agg [(.int .i64 20), (.int .i64 n32), (.int .i64 0), (.str as3)]), (.sl 1 bl9), (.sl 1 bl10), (.sl 1 bl11), (.sl 7 bl12), (.sl 4 l16)] fun o33 => (uI .i64 o33 fun n35 r34 => (uL 4 r34 fun l37 r36 => (unNil r36 (K [(.sl 4 l37)])))))))) else (bif (ai1 == 4) then (G 57 [(.sl 1 bl11), (.str as2)] fun o38 => (uI .i64 o38 fun n40 r39 => (unNil r39 (G 56 [(.agg [(.int .i64 21), (.int .i64 n40), (.int .i64 0), (.str ⟨#[]⟩)]), (.sl 1 bl9), (.sl 1 bl10), (.sl 1 bl11), (.sl 7 bl12), (.sl 4 l16)] fun o41 => (uI .i64 o41 fun n43 r42 => (uL 4 r42 fun l45 r44 => (unNil r44 (K [(.sl 4 l45)])))))))) else (bif (ai1 == 5) then (G 57 [(.sl 1 bl11), (.str as2)] fun o46 => (uI .i64 o46 fun n48 r47 => (unNil r47 (G 56 [(.agg [(.int .i64 22), (.int .i64 n48), (.int .i64 0), (.str ⟨#[]⟩)]), (.sl 1 bl9), (.sl 1 bl10), (.sl 1 bl11), (.sl 7 bl12), (.sl 4 l16)] fun o49 => (uI .i64 o49 fun n51 r50 => (uL 4 r50 fun l53 r52 => (unNil r52 (K [(.sl 4 l53)])))))))) else (K [(.sl 4 l16)]))))))))) else (bif (ai1 == 1) then (G 57 [(.sl 1 bl9), (.str as2)] fun o54 => (uI .i64 o54 fun n56 r55 => (unNil r55 (G 56 [(.agg [(.int .i64 18), (.int .i64 n56), (.int .i64 0), (.str ⟨#[]⟩)]), (.sl 1 bl9), (.sl 1 bl10), (.sl 1 bl11), (.sl 7 bl12), (.sl 4 bl13)] fun o57 => (uI .i64 o57 fun n59 r58 => (uL 4 r58 fun l61 r60 => (unNil r60 (K [(.sl 4 l61)])))))))) else (bif (ai1 == 2) then (G 56 [(.agg [(.int .i64 19), (.int .i64 0), (.int .i64 0), (.str as3)]), (.sl 1 bl9), (.sl 1 bl10), (.sl 1 bl11), (.sl 7 bl12), (.sl 4 bl13)] fun o62 => (uI .i64 o62 fun n64 r63 => (uL 4 r63 fun l66 r65 => (unNil r65 (K [(.sl 4 l66)]))))) else (bif (ai1 == 3) then (G 57 [(.sl 1 bl10), (.str as2)] fun o67 => (uI .i64 o67 fun n69 r68 => (unNil r68 (G 56 [(.agg [(.int .i64 20), (.int .i64 n69), (.int .i64 0), (.str as3)]), (.sl 1 bl9), (.sl 1 bl10), (.sl 1 bl11), (.sl 7 bl12), (.sl 4 bl13)] fun o70 => (uI .i64 o70 fun n72 r71 => (uL 4 r71 fun l74 r73 => (unNil r73 (K [(.sl 4 l74)])))))))) else (bif (ai1 == 4) then (G 57 [(.sl 1 bl11), (.str as2)] fun o75 => (uI .i64 o75 fun n77 r76 => (unNil r76 (G 56 [(.agg [(.int .i64 21), (.int .i64 n77), (.int .i64 0), (.str ⟨#[]⟩)]), (.sl 1 bl9), (.sl 1 bl10), (.sl 1 bl11), (.sl 7 bl12), (.sl 4 bl13)] fun o78 => (uI .i64 o78 fun n80 r79 => (uL 4 r79 fun l82 r81 => (unNil r81 (K [(.sl 4 l82)])))))))) else (bif (ai1 == 5) then (G 57 [(.sl 1 bl11), (.str as2)] fun o83 => (uI .i64 o83 fun n85 r84 => (unNil r84 (G 56 [(.agg [(.int .i64 22), (.int .i64 n85), (.int .i64 0), (.str ⟨#[]⟩)]), (.sl 1 bl9), (.sl 1 bl10), (.sl 1 bl11), (.sl 7 bl12), (.sl 4 bl13)] fun o86 => (uI .i64 o86 fun n88 r87 => (uL 4 r87 fun l90 r89 => (unNil r89 (K [(.sl 4 l90)])))))))) else (K [(.sl 4 bl13)])))))))
theorem f53_is {R : Type} (G : ORC R) (k : Nat) (K : List V → Option R) (ai1 : Int) (as2 as3 : ByteArray) (al4 : List V) (ai5 : Int) (al6 al7 : List V) (ai8 : Int) (bl9 bl10 : List V) (bl11 bl12 bl13 : List V) :
    callF (TAB.env 53) G (L53 G k) Try.f53 S53 [(.agg [(.int .i64 ai1), (.str as2), (.str as3), (.sl 5 al4), (.int .i64 ai5), (.sl 8 al6), (.sl 8 al7), (.int .i64 ai8)]), (.sl 1 bl9), (.sl 1 bl10), (.sl 1 bl11), (.sl 7 bl12), (.sl 4 bl13)] K = f53 G k ai1 as2 as3 al4 ai5 al6 al7 ai8 bl9 bl10 bl11 bl12 bl13 K := by kernel_rfl
theorem lo53 : loopsOf (bodyOf Try.f53) = [] := by kernel_rfl
theorem la53 {R : Type} (G : ORC R) (k : Nat) : LoopsAre (TAB.env 53) G (L53 G k) (bodyOf Try.f53) :=
  loopsAre_of (by rw [lo53]; intro p hp; cases hp)
def g53 {R : Type} (G : ORC R) (k : Nat) (args : List V) (K : List V → Option R) : Option R := match args with
  | [(.agg [(.int .i64 ai1), (.str as2), (.str as3), (.sl 5 al4), (.int .i64 ai5), (.sl 8 al6), (.sl 8 al7), (.int .i64 ai8)]), (.sl 1 bl9), (.sl 1 bl10), (.sl 1 bl11), (.sl 7 bl12), (.sl 4 bl13)] => f53 G k ai1 as2 as3 al4 ai5 al6 al7 ai8 bl9 bl10 bl11 bl12 bl13 K
  | _ => none
theorem s53 {R : Type} {G : ORC R} {k : Nat} (hG : Sound Try.prog TAB G) (args : List V) (K : List V → Option R) (r : R) (h : g53 G k args K = some r) : ∃ o, CallOK Try.prog TAB.env 53 args o ∧ K o = some r := by
  unfold g53 at h
  split at h
  · rw [← f53_is] at h
    exact callF_sound (f := 53) TAB_chk MO hG Try.func53 (sg := S53) (by kernel_rfl) (by kernel_rfl) (la53 G k) h
  · cases h
end Go.Proofs.Ytdfjodnkplbffaa.Vm
