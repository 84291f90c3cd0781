/- The table of the seat: types, ways of functions, what is taken where; held against the program. -/
import Derived.Test.YtjbppcgcblfkoaaV3
import Derived.Test.YtjbppcgcblfkoaaProg
import Derived.KernelRfl
open Go Go.VM
set_option linter.unusedVariables false
set_option maxRecDepth 100000
namespace Go.Proofs.Ytjbppcgcblfkoaa.Vm
def T2 : TyD := { under := (.int .i64), size := 1, bytes := 8, zv := [((.int .i64 (0 : Int)), .pr)], leafs := [(.int .i64)], deep := false }
def T3 : TyD := { under := (.int .i64), size := 1, bytes := 8, zv := [((.int .i64 (0 : Int)), .pr)], leafs := [(.int .i64)], deep := false }
def T4 : TyD := { under := .bool, size := 1, bytes := 1, zv := [((.bool false), .pr)], leafs := [.bool], deep := false }
def T5 : TyD := { under := (.int .u8), size := 1, bytes := 1, zv := [((.int .u8 (0 : Int)), .pr)], leafs := [(.int .u8)], deep := false }
def T6 : TyD := { under := (.int .u8), size := 1, bytes := 1, zv := [((.int .u8 (0 : Int)), .pr)], leafs := [(.int .u8)], deep := false }
def T7 : TyD := { under := (.struct [(0, 2), (1, 3), (2, 4), (3, 6)]), size := 4, bytes := 24, zv := [((.int .i64 (0 : Int)), .pr), ((.int .i64 (0 : Int)), .pr), ((.bool false), .pr), ((.int .u8 (0 : Int)), .pr)], leafs := [(.int .i64), (.int .i64), .bool, (.int .u8)], deep := false }
def T8 : TyD := { under := (.struct [(0, 2), (1, 3), (2, 4), (3, 6)]), size := 4, bytes := 24, zv := [((.int .i64 (0 : Int)), .pr), ((.int .i64 (0 : Int)), .pr), ((.bool false), .pr), ((.int .u8 (0 : Int)), .pr)], leafs := [(.int .i64), (.int .i64), .bool, (.int .u8)], deep := false }
def T9 : TyD := { under := .string, size := 1, bytes := 16, zv := [((.str ⟨#[]⟩), .pr)], leafs := [.string], deep := false }
def T22 : TyD := { under := (.slice 3), size := 1, bytes := 24, zv := [((.sl 1 []), (.own true))], leafs := [(.slice 3)], deep := false }
def T24 : TyD := { under := (.slice 2), size := 1, bytes := 24, zv := [((.sl 1 []), (.own true))], leafs := [(.slice 2)], deep := false }
def T25 : TyD := { under := (.slice 9), size := 1, bytes := 24, zv := [((.sl 1 []), (.own true))], leafs := [(.slice 9)], deep := false }
def T26 : TyD := { under := (.slice 64), size := 1, bytes := 24, zv := [((.sl 7 []), (.own true))], leafs := [(.slice 64)], deep := false }
def T27 : TyD := { under := (.slice 37), size := 1, bytes := 24, zv := [((.sl 6 []), (.own true))], leafs := [(.slice 37)], deep := false }
def T28 : TyD := { under := (.slice 97), size := 1, bytes := 24, zv := [((.sl 1 []), (.own true))], leafs := [(.slice 97)], deep := false }
def T30 : TyD := { under := (.struct [(0, 9), (1, 3), (2, 3), (3, 24), (4, 25), (5, 25), (6, 26), (7, 27), (8, 28)]), size := 9, bytes := 176, zv := [((.str ⟨#[]⟩), .pr), ((.int .i64 (0 : Int)), .pr), ((.int .i64 (0 : Int)), .pr), ((.sl 1 []), (.own true)), ((.sl 1 []), (.own true)), ((.sl 1 []), (.own true)), ((.sl 7 []), (.own true)), ((.sl 6 []), (.own true)), ((.sl 1 []), (.own true))], leafs := [.string, (.int .i64), (.int .i64), (.slice 2), (.slice 9), (.slice 9), (.slice 64), (.slice 37), (.slice 97)], deep := false }
def T32 : TyD := { under := (.slice 34), size := 1, bytes := 24, zv := [((.sl 1 []), (.own true))], leafs := [(.slice 34)], deep := false }
def T34 : TyD := { under := (.slice 4), size := 1, bytes := 24, zv := [((.sl 1 []), (.own true))], leafs := [(.slice 4)], deep := false }
def T37 : TyD := { under := (.struct [(0, 3), (1, 3), (2, 3), (3, 3), (4, 3), (5, 9)]), size := 6, bytes := 56, zv := [((.int .i64 (0 : Int)), .pr), ((.int .i64 (0 : Int)), .pr), ((.int .i64 (0 : Int)), .pr), ((.int .i64 (0 : Int)), .pr), ((.int .i64 (0 : Int)), .pr), ((.str ⟨#[]⟩), .pr)], leafs := [(.int .i64), (.int .i64), (.int .i64), (.int .i64), (.int .i64), .string], deep := false }
def T40 : TyD := { under := .pointer, size := 1, bytes := 8, zv := [(.nilp, .pr)], leafs := [.pointer], deep := false }
def T42 : TyD := { under := (.struct [(0, 22), (1, 3)]), size := 2, bytes := 32, zv := [((.sl 1 []), (.own true)), ((.int .i64 (0 : Int)), .pr)], leafs := [(.slice 3), (.int .i64)], deep := false }
def T47 : TyD := { under := (.slice 109), size := 1, bytes := 24, zv := [((.sl 8 []), (.own true))], leafs := [(.slice 109)], deep := true }
def T48 : TyD := { under := (.slice 96), size := 1, bytes := 24, zv := [((.sl 5 []), (.own true))], leafs := [(.slice 96)], deep := true }
def T49 : TyD := { under := (.slice 51), size := 1, bytes := 24, zv := [((.sl 7 []), (.own true))], leafs := [(.slice 51)], deep := true }
def T51 : TyD := { under := (.struct [(0, 3), (1, 9), (2, 47), (3, 47), (4, 48), (5, 49), (6, 3)]), size := 7, bytes := 128, zv := [((.int .i64 (0 : Int)), .pr), ((.str ⟨#[]⟩), .pr), ((.sl 8 []), (.own true)), ((.sl 8 []), (.own true)), ((.sl 5 []), (.own true)), ((.sl 7 []), (.own true)), ((.int .i64 (0 : Int)), .pr)], leafs := [(.int .i64), .string, (.slice 109), (.slice 109), (.slice 96), (.slice 51), (.int .i64)], deep := true }
def T52 : TyD := { under := (.slice 5), size := 1, bytes := 24, zv := [((.sl 1 []), (.own true))], leafs := [(.slice 5)], deep := false }
def T54 : TyD := { under := (.slice 76), size := 1, bytes := 24, zv := [((.sl 3 []), (.own true))], leafs := [(.slice 76)], deep := false }
def T56 : TyD := { under := (.struct [(0, 9), (1, 3), (2, 3), (3, 54), (4, 54), (5, 54), (6, 49), (7, 3)]), size := 8, bytes := 136, zv := [((.str ⟨#[]⟩), .pr), ((.int .i64 (0 : Int)), .pr), ((.int .i64 (0 : Int)), .pr), ((.sl 3 []), (.own true)), ((.sl 3 []), (.own true)), ((.sl 3 []), (.own true)), ((.sl 7 []), (.own true)), ((.int .i64 (0 : Int)), .pr)], leafs := [.string, (.int .i64), (.int .i64), (.slice 76), (.slice 76), (.slice 76), (.slice 51), (.int .i64)], deep := true }
def T64 : TyD := { under := (.struct [(0, 3), (1, 3), (2, 3), (3, 3), (4, 3), (5, 3), (6, 9)]), size := 7, bytes := 64, zv := [((.int .i64 (0 : Int)), .pr), ((.int .i64 (0 : Int)), .pr), ((.int .i64 (0 : Int)), .pr), ((.int .i64 (0 : Int)), .pr), ((.int .i64 (0 : Int)), .pr), ((.int .i64 (0 : Int)), .pr), ((.str ⟨#[]⟩), .pr)], leafs := [(.int .i64), (.int .i64), (.int .i64), (.int .i64), (.int .i64), (.int .i64), .string], deep := false }
def T68 : TyD := { under := .pointer, size := 1, bytes := 8, zv := [(.nilp, .pr)], leafs := [.pointer], deep := false }
def T70 : TyD := { under := (.struct [(0, 25), (1, 25), (2, 25), (3, 26)]), size := 4, bytes := 96, zv := [((.sl 1 []), (.own true)), ((.sl 1 []), (.own true)), ((.sl 1 []), (.own true)), ((.sl 7 []), (.own true))], leafs := [(.slice 9), (.slice 9), (.slice 9), (.slice 64)], deep := false }
def T73 : TyD := { under := (.struct [(0, 30), (9, 70)]), size := 13, bytes := 272, zv := [((.str ⟨#[]⟩), .pr), ((.int .i64 (0 : Int)), .pr), ((.int .i64 (0 : Int)), .pr), ((.sl 1 []), (.own true)), ((.sl 1 []), (.own true)), ((.sl 1 []), (.own true)), ((.sl 7 []), (.own true)), ((.sl 6 []), (.own true)), ((.sl 1 []), (.own true)), ((.sl 1 []), (.own true)), ((.sl 1 []), (.own true)), ((.sl 1 []), (.own true)), ((.sl 7 []), (.own true))], leafs := [.string, (.int .i64), (.int .i64), (.slice 2), (.slice 9), (.slice 9), (.slice 64), (.slice 37), (.slice 97), (.slice 9), (.slice 9), (.slice 9), (.slice 64)], deep := false }
def T76 : TyD := { under := (.struct [(0, 9), (1, 2), (2, 3)]), size := 3, bytes := 32, zv := [((.str ⟨#[]⟩), .pr), ((.int .i64 (0 : Int)), .pr), ((.int .i64 (0 : Int)), .pr)], leafs := [.string, (.int .i64), (.int .i64)], deep := false }
def T78 : TyD := { under := .pointer, size := 1, bytes := 8, zv := [(.nilp, .pr)], leafs := [.pointer], deep := false }
def T80 : TyD := { under := (.struct [(0, 25), (1, 25), (2, 25), (3, 25)]), size := 4, bytes := 96, zv := [((.sl 1 []), (.own true)), ((.sl 1 []), (.own true)), ((.sl 1 []), (.own true)), ((.sl 1 []), (.own true))], leafs := [(.slice 9), (.slice 9), (.slice 9), (.slice 9)], deep := false }
def T82 : TyD := { under := (.struct [(0, 40), (1, 80), (5, 3), (6, 25)]), size := 7, bytes := 136, zv := [(.nilp, .pr), ((.sl 1 []), (.own true)), ((.sl 1 []), (.own true)), ((.sl 1 []), (.own true)), ((.sl 1 []), (.own true)), ((.int .i64 (0 : Int)), .pr), ((.sl 1 []), (.own true))], leafs := [.pointer, (.slice 9), (.slice 9), (.slice 9), (.slice 9), (.int .i64), (.slice 9)], deep := false }
def T84 : TyD := { under := (.array 4 3), size := 4, bytes := 32, zv := [((.int .i64 (0 : Int)), .pr), ((.int .i64 (0 : Int)), .pr), ((.int .i64 (0 : Int)), .pr), ((.int .i64 (0 : Int)), .pr)], leafs := [(.int .i64), (.int .i64), (.int .i64), (.int .i64)], deep := false }
def T94 : TyD := { under := (.slice 100), size := 1, bytes := 24, zv := [((.sl 5 []), (.own true))], leafs := [(.slice 100)], deep := true }
def T96 : TyD := { under := (.struct [(0, 9), (1, 94), (2, 9), (3, 47), (4, 3)]), size := 5, bytes := 88, zv := [((.str ⟨#[]⟩), .pr), ((.sl 5 []), (.own true)), ((.str ⟨#[]⟩), .pr), ((.sl 8 []), (.own true)), ((.int .i64 (0 : Int)), .pr)], leafs := [.string, (.slice 100), .string, (.slice 109), (.int .i64)], deep := true }
def T97 : TyD := { under := (.slice 114), size := 1, bytes := 24, zv := [((.sl 4 []), (.own true))], leafs := [(.slice 114)], deep := false }
def T100 : TyD := { under := (.struct [(0, 3), (1, 2), (2, 9), (3, 94), (4, 3)]), size := 5, bytes := 64, zv := [((.int .i64 (0 : Int)), .pr), ((.int .i64 (0 : Int)), .pr), ((.str ⟨#[]⟩), .pr), ((.sl 5 []), (.own true)), ((.int .i64 (0 : Int)), .pr)], leafs := [(.int .i64), (.int .i64), .string, (.slice 100), (.int .i64)], deep := true }
def T109 : TyD := { under := (.struct [(0, 3), (1, 9), (2, 9), (3, 94), (4, 3), (5, 47), (6, 47), (7, 3)]), size := 8, bytes := 128, zv := [((.int .i64 (0 : Int)), .pr), ((.str ⟨#[]⟩), .pr), ((.str ⟨#[]⟩), .pr), ((.sl 5 []), (.own true)), ((.int .i64 (0 : Int)), .pr), ((.sl 8 []), (.own true)), ((.sl 8 []), (.own true)), ((.int .i64 (0 : Int)), .pr)], leafs := [(.int .i64), .string, .string, (.slice 100), (.int .i64), (.slice 109), (.slice 109), (.int .i64)], deep := true }
def T110 : TyD := { under := (.array 8 9), size := 8, bytes := 128, zv := [((.str ⟨#[]⟩), .pr), ((.str ⟨#[]⟩), .pr), ((.str ⟨#[]⟩), .pr), ((.str ⟨#[]⟩), .pr), ((.str ⟨#[]⟩), .pr), ((.str ⟨#[]⟩), .pr), ((.str ⟨#[]⟩), .pr), ((.str ⟨#[]⟩), .pr)], leafs := [.string, .string, .string, .string, .string, .string, .string, .string], deep := false }
def T111 : TyD := { under := (.array 6 3), size := 6, bytes := 48, zv := [((.int .i64 (0 : Int)), .pr), ((.int .i64 (0 : Int)), .pr), ((.int .i64 (0 : Int)), .pr), ((.int .i64 (0 : Int)), .pr), ((.int .i64 (0 : Int)), .pr), ((.int .i64 (0 : Int)), .pr)], leafs := [(.int .i64), (.int .i64), (.int .i64), (.int .i64), (.int .i64), (.int .i64)], deep := false }
def T114 : TyD := { under := (.struct [(0, 3), (1, 3), (2, 2), (3, 9)]), size := 4, bytes := 40, zv := [((.int .i64 (0 : Int)), .pr), ((.int .i64 (0 : Int)), .pr), ((.int .i64 (0 : Int)), .pr), ((.str ⟨#[]⟩), .pr)], leafs := [(.int .i64), (.int .i64), (.int .i64), .string], deep := false }
def S3 : Sig := { params := [.val .ro (.sl 1), .val .pr (.int .i64), .val .pr (.int .i64)], boxes := [], outs := [(.pr, .bool)] }
def S4 : Sig := { params := [.val .ro (.sl 1), .val .ro (.sl 1)], boxes := [], outs := [(.pr, .bool)] }
def S5 : Sig := { params := [.val .pr (.int .u8), .val .pr (.int .u8), .val .pr (.int .u8)], boxes := [], outs := [(.pr, .bool)] }
def S6 : Sig := { params := [], boxes := [], outs := [(.pr, .bool)] }
def S7 : Sig := { params := [.val .ro (.sl 1)], boxes := [], outs := [(.ro, (.agg [.str, (.int .i64), (.int .i64), (.sl 1), (.sl 1), (.sl 1), (.sl 7), (.sl 6), (.sl 1)]))] }
def S8 : Sig := { params := [.val .ro (.sl 7), .val .ro (.sl 6)], boxes := [], outs := [(.ro, (.sl 1))] }
def S9 : Sig := { params := [.val .ro (.sl 7), .val .ro (.agg [(.int .i64), (.int .i64), (.int .i64), (.int .i64), (.int .i64), .str]), .val .ro (.agg [(.int .i64), (.int .i64), (.int .i64), (.int .i64), (.int .i64), .str])], boxes := [], outs := [(.pr, .bool)] }
def S10 : Sig := { params := [.val .ro (.sl 7), .val .ro (.agg [(.int .i64), (.int .i64), (.int .i64), (.int .i64), (.int .i64), .str]), .val .ro (.agg [(.int .i64), (.int .i64), (.int .i64), (.int .i64), (.int .i64), .str])], boxes := [], outs := [(.pr, .bool)] }
def S11 : Sig := { params := [.val .ro (.sl 7), .ptr 0 0, .val .pr (.int .i64)], boxes := [[.fix (.sl 1), .val .pr (.int .i64)]], outs := [(.ro, (.sl 1))] }
def S12 : Sig := { params := [.val .ro (.sl 1), .val .pr (.int .i64)], boxes := [], outs := [(.pr, .bool)] }
def S13 : Sig := { params := [.val .ro (.sl 1), .val .ro (.sl 1)], boxes := [], outs := [(.ro, (.sl 1))] }
def S14 : Sig := { params := [.val .ro (.sl 7), .val .ro (.sl 1), .val .ro (.sl 1)], boxes := [], outs := [(.ro, (.sl 1))] }
def S15 : Sig := { params := [.val .ro (.agg [.str, (.int .i64), (.int .i64), (.sl 3), (.sl 3), (.sl 3), (.sl 7), (.int .i64)])], boxes := [], outs := [((.own true), (.sl 7))] }
def S16 : Sig := { params := [.val .ro (.sl 7), .val .pr (.int .i64), .val .pr (.int .i64)], boxes := [], outs := [(.pr, (.int .i64))] }
def S17 : Sig := { params := [.val .ro (.agg [.str, (.int .i64), (.int .i64), (.sl 3), (.sl 3), (.sl 3), (.sl 7), (.int .i64)])], boxes := [], outs := [(.ro, (.agg [.str, (.int .i64), (.int .i64), (.sl 1), (.sl 1), (.sl 1), (.sl 7), (.sl 6), (.sl 1)]))] }
def S18 : Sig := { params := [.ptr 0 0, .val .pr .str, .val .pr (.int .i64)], boxes := [[.fix (.sl 1), .val .pr (.int .i64)]], outs := [(.ro, (.agg [.str, (.int .i64), (.int .i64), (.sl 3), (.sl 3), (.sl 3), (.sl 7), (.int .i64)]))] }
def S19 : Sig := { params := [.val .ro (.sl 7), .val .pr (.int .i64), .val .pr (.int .i64)], boxes := [], outs := [(.pr, .bool)] }
def S20 : Sig := { params := [.val .ro (.sl 7), .val .pr (.int .i64), .val .pr (.int .i64)], boxes := [], outs := [(.pr, .bool)] }
def S21 : Sig := { params := [.val .ro (.sl 7), .val .pr (.int .i64)], boxes := [], outs := [(.ro, (.sl 1))] }
def S22 : Sig := { params := [.ptr 0 0, .val .pr (.int .i64)], boxes := [[.fix (.sl 1), .val .pr (.int .i64)]], outs := [(.pr, (.int .i64))] }
def S23 : Sig := { params := [.val .ro (.sl 1), .val .ro (.sl 1)], boxes := [], outs := [(.ro, (.sl 1))] }
def S24 : Sig := { params := [.val (.own true) (.sl 7), .val .ro (.sl 7), .val .pr (.int .i64)], boxes := [], outs := [((.own true), (.sl 7))] }
def S25 : Sig := { params := [.val .ro (.sl 7), .val .pr (.int .i64)], boxes := [], outs := [(.pr, .bool)] }
def S26 : Sig := { params := [.val .ro (.agg [.str, (.int .i64), (.int .i64), (.sl 3), (.sl 3), (.sl 3), (.sl 7), (.int .i64)])], boxes := [], outs := [(.ro, (.agg [(.sl 1), (.sl 1), (.sl 1), (.sl 7)]))] }
def S27 : Sig := { params := [.val .ro (.sl 3)], boxes := [], outs := [(.ro, (.sl 1))] }
def S28 : Sig := { params := [.ptr 0 0, .val .ro (.sl 7)], boxes := [[.val .pr .str, .val .pr (.int .i64), .val .pr (.int .i64), .fix (.sl 1), .fix (.sl 1), .fix (.sl 1), .val (.own true) (.sl 7), .val (.own true) (.sl 6), .val (.own true) (.sl 1), .fix (.sl 1), .fix (.sl 1), .fix (.sl 1), .fix (.sl 7)]], outs := [] }
def S29 : Sig := { params := [.val .pr .str, .val .pr (.int .i64)], boxes := [], outs := [(.ro, (.sl 1))] }
def S30 : Sig := { params := [.val .ro (.sl 1), .ptr 0 0], boxes := [[.fix (.sl 1), .val .pr (.int .i64)]], outs := [(.ro, (.sl 3))] }
def S31 : Sig := { params := [.val .ro (.sl 1)], boxes := [], outs := [(.ro, (.sl 3))] }
def S32 : Sig := { params := [.ptr 0 0, .val .pr (.int .i64), .val .pr .bool], boxes := [[.ptr 1 0, .fix (.sl 1), .fix (.sl 1), .fix (.sl 1), .fix (.sl 1), .val .pr (.int .i64), .val (.own true) (.sl 1)], [.fix (.sl 1), .val .pr (.int .i64)]], outs := [((.own true), (.agg [(.int .i64), .str, (.sl 8), (.sl 8), (.sl 5), (.sl 7), (.int .i64)]))] }
def S33 : Sig := { params := [.ptr 0 0, .val (.own true) (.agg [(.int .i64), .str, (.sl 8), (.sl 8), (.sl 5), (.sl 7), (.int .i64)])], boxes := [[.ptr 1 0, .fix (.sl 1), .fix (.sl 1), .fix (.sl 1), .fix (.sl 1), .val .pr (.int .i64), .fix (.sl 1)], [.fix (.sl 1), .val .pr (.int .i64)]], outs := [((.own true), (.agg [(.int .i64), .str, (.sl 8), (.sl 8), (.sl 5), (.sl 7), (.int .i64)]))] }
def S34 : Sig := { params := [.val .ro (.sl 7), .val .pr (.int .i64)], boxes := [], outs := [(.pr, .bool)] }
def S35 : Sig := { params := [.val .ro (.sl 7), .val .pr (.int .i64)], boxes := [], outs := [(.ro, (.sl 1))] }
def S36 : Sig := { params := [.val .ro (.agg [(.int .i64), (.int .i64), (.int .i64), (.int .i64), (.int .i64), (.int .i64), .str])], boxes := [], outs := [(.pr, .bool)] }
def S37 : Sig := { params := [.val .pr (.int .i64), .val .pr (.int .i64)], boxes := [], outs := [(.pr, (.int .i64))] }
def S38 : Sig := { params := [.val .ro (.agg [(.int .i64), .str, (.sl 8), (.sl 8), (.sl 5), (.sl 7), (.int .i64)])], boxes := [], outs := [(.pr, (.int .i64))] }
def S39 : Sig := { params := [.val .ro (.sl 7), .val .pr .str], boxes := [], outs := [(.pr, (.int .i64))] }
def S40 : Sig := { params := [.ptr 0 0, .val .ro (.sl 8)], boxes := [[.val .pr .str, .val .pr (.int .i64), .val .pr (.int .i64), .fix (.sl 1), .fix (.sl 1), .fix (.sl 1), .fix (.sl 7), .fix (.sl 6), .val (.own true) (.sl 1), .fix (.sl 1), .fix (.sl 1), .fix (.sl 1), .fix (.sl 7)]], outs := [(.pr, (.int .i64))] }
def S41 : Sig := { params := [.val .ro (.agg [(.int .i64), (.int .i64), .str, (.sl 5), (.int .i64)]), .val .ro (.agg [(.sl 1), (.sl 1), (.sl 1), (.sl 7)])], boxes := [], outs := [((.own true), (.sl 4))] }
def S42 : Sig := { params := [.val .pr (.int .i64)], boxes := [], outs := [(.pr, .str)] }
def S43 : Sig := { params := [.ptr 0 0, .val .ro (.agg [(.sl 1), (.sl 1), (.sl 1), (.sl 1)]), .val .pr (.int .i64)], boxes := [[.fix (.sl 1), .val .pr (.int .i64)]], outs := [((.own true), (.sl 8))] }
def S44 : Sig := { params := [.val .pr (.int .i64)], boxes := [], outs := [(.pr, .str)] }
def S45 : Sig := { params := [.ptr 0 0, .val .ro (.agg [(.sl 1), (.sl 1), (.sl 1), (.sl 1)]), .val .pr (.int .i64)], boxes := [[.fix (.sl 1), .val .pr (.int .i64)]], outs := [((.own true), (.agg [(.int .i64), (.int .i64), .str, (.sl 5), (.int .i64)]))] }
def S46 : Sig := { params := [.ptr 0 0, .val .ro (.sl 1), .val .pr .str], boxes := [[.fix (.sl 1), .val .pr (.int .i64)]], outs := [(.pr, .str)] }
def S47 : Sig := { params := [.val .ro (.sl 8), .val .ro (.agg [(.sl 1), (.sl 1), (.sl 1), (.sl 7)])], boxes := [], outs := [((.own true), (.sl 4))] }
def S48 : Sig := { params := [.val (.own true) (.sl 4), .val .ro (.agg [(.int .i64), (.int .i64), .str, (.sl 5), (.int .i64)]), .val .ro (.agg [(.sl 1), (.sl 1), (.sl 1), (.sl 7)])], boxes := [], outs := [((.own true), (.sl 4))] }
def S49 : Sig := { params := [.val .pr (.int .i64)], boxes := [], outs := [(.pr, .str)] }
def S50 : Sig := { params := [.val (.own true) (.sl 4), .val .ro (.sl 8), .val .ro (.agg [(.sl 1), (.sl 1), (.sl 1), (.sl 7)])], boxes := [], outs := [((.own true), (.sl 4))] }
def S51 : Sig := { params := [.val .ro (.sl 1), .val .pr .str], boxes := [], outs := [(.pr, (.int .i64))] }
def S52 : Sig := { params := [.val .pr (.int .i64)], boxes := [], outs := [(.pr, (.int .i64))] }
def S53 : Sig := { params := [.val (.own true) (.sl 4), .val .ro (.agg [(.int .i64), (.int .i64), .str, (.sl 5), (.int .i64)]), .val .ro (.agg [(.sl 1), (.sl 1), (.sl 1), (.sl 7)])], boxes := [], outs := [((.own true), (.sl 4))] }
def S54 : Sig := { params := [.val (.own true) (.sl 4), .val .ro (.agg [(.int .i64), (.int .i64), .str, (.sl 5), (.int .i64)]), .val .ro (.agg [(.sl 1), (.sl 1), (.sl 1), (.sl 7)])], boxes := [], outs := [((.own true), (.sl 4))] }
def S55 : Sig := { params := [.val (.own true) (.sl 4), .val .ro (.agg [(.int .i64), .str, .str, (.sl 5), (.int .i64), (.sl 8), (.sl 8), (.int .i64)]), .val .ro (.agg [(.sl 1), (.sl 1), (.sl 1), (.sl 7)])], boxes := [], outs := [((.own true), (.sl 4))] }
def S56 : Sig := { params := [.val (.own true) (.sl 4), .val .ro (.sl 5), .val .ro (.agg [(.sl 1), (.sl 1), (.sl 1), (.sl 7)])], boxes := [], outs := [((.own true), (.sl 4))] }
abbrev ORC (R : Type) := FuncId → List V → (List V → Option R) → Option R
def TAB : Tab := { tys := [(2, T2), (3, T3), (4, T4), (5, T5), (6, T6), (7, T7), (8, T8), (9, T9), (22, T22), (24, T24), (25, T25), (26, T26), (27, T27), (28, T28), (30, T30), (32, T32), (34, T34), (37, T37), (40, T40), (42, T42), (47, T47), (48, T48), (49, T49), (51, T51), (52, T52), (54, T54), (56, T56), (64, T64), (68, T68), (70, T70), (73, T73), (76, T76), (78, T78), (80, T80), (82, T82), (84, T84), (94, T94), (96, T96), (97, T97), (100, T100), (109, T109), (110, T110), (111, T111), (114, T114)], sigs := [(3, S3), (4, S4), (5, S5), (6, S6), (7, S7), (8, S8), (9, S9), (10, S10), (11, S11), (12, S12), (13, S13), (14, S14), (15, S15), (16, S16), (17, S17), (18, S18), (19, S19), (20, S20), (21, S21), (22, S22), (23, S23), (24, S24), (25, S25), (26, S26), (27, S27), (28, S28), (29, S29), (30, S30), (31, S31), (32, S32), (33, S33), (34, S34), (35, S35), (36, S36), (37, S37), (38, S38), (39, S39), (40, S40), (41, S41), (42, S42), (43, S43), (44, S44), (45, S45), (46, S46), (47, S47), (48, S48), (49, S49), (50, S50), (51, S51), (52, S52), (53, S53), (54, S54), (55, S55), (56, S56)], takes := [(15, 0, 1), (15, 3, 1), (24, 0, 0), (24, 10, 1), (41, 0, 2), (41, 1, 3), (43, 0, 1), (43, 21, 1), (47, 0, 1), (47, 1, 3), (48, 0, 2), (48, 3, 6), (48, 5, 9), (48, 7, 4), (48, 9, 9), (48, 12, 13), (48, 14, 4), (48, 16, 4), (48, 17, 19), (50, 0, 1), (50, 5, 1), (53, 0, 2), (53, 10, 1), (54, 0, 2), (54, 11, 1), (55, 0, 2), (55, 3, 13), (55, 5, 10), (55, 7, 15), (55, 9, 13), (55, 11, 9), (55, 17, 1), (55, 27, 1), (55, 29, 1), (56, 0, 1), (56, 2, 4), (56, 3, 6)] }
theorem TAB_chk : TAB.chk Try.prog = true := by kernel_rfl
theorem MO : Try.prog.follows .mixedOrders = true := by kernel_rfl
end Go.Proofs.Ytjbppcgcblfkoaa.Vm
