/- Functions of the program, told by the machine of values, and what they answer: a part. -/
import Derived.Test.YtdfjodnkplbffaaTtV3
import Derived.Test.YtdfjodnkplbffaaProg
import Derived.KernelRfl
import Derived.Test.YtdfjodnkplbffaaTtV5
import Derived.Tactics
import Derived.Tactics2
import Derived.Laws.Pointers
import Derived.Laws.CopyRow
import Derived.Laws.BitsLemmas
import Derived.RowKit
import Derived.Test.YtdfjodnkplbffaaTtV4
open Go Go.VM
set_option linter.unusedVariables false
set_option maxRecDepth 100000
namespace Go.Proofs.Ytdfjodnkplbffaa.Vm
def T2 : TyD := { under := .int .i64, size := 1, bytes := 8, zv := [((.int .i64 (0 : Int)), .pr)], leafs := [.int .i64], deep := false }
def T3 : TyD := { under := .int .i64, size := 1, bytes := 8, zv := [((.int .i64 (0 : Int)), .pr)], leafs := [.int .i64], deep := false }
def T4 : TyD := { under := .bool, size := 1, bytes := 1, zv := [((.bool false), .pr)], leafs := [.bool], deep := false }
def T5 : TyD := { under := .int .u8, size := 1, bytes := 1, zv := [((.int .u8 (0 : Int)), .pr)], leafs := [.int .u8], deep := false }
def T6 : TyD := { under := .int .u8, size := 1, bytes := 1, zv := [((.int .u8 (0 : Int)), .pr)], leafs := [.int .u8], deep := false }
def T9 : TyD := { under := .string, size := 1, bytes := 16, zv := [((.str ⟨#[]⟩), .pr)], leafs := [.string], deep := false }
def T22 : TyD := { under := .slice 3, size := 1, bytes := 24, zv := [((.sl 1 []), .own true)], leafs := [.slice 3], deep := false }
def T24 : TyD := { under := .slice 9, size := 1, bytes := 24, zv := [((.sl 1 []), .own true)], leafs := [.slice 9], deep := false }
def T26 : TyD := { under := .struct [(0, 24), (1, 24), (2, 24), (3, 24)], size := 4, bytes := 96, zv := [((.sl 1 []), .own true), ((.sl 1 []), .own true), ((.sl 1 []), .own true), ((.sl 1 []), .own true)], leafs := [.slice 9, .slice 9, .slice 9, .slice 9], deep := false }
def T27 : TyD := { under := .slice 123, size := 1, bytes := 24, zv := [((.sl 7 []), .own true)], leafs := [.slice 123], deep := false }
def T29 : TyD := { under := .struct [(0, 24), (1, 24), (2, 24), (3, 27)], size := 4, bytes := 96, zv := [((.sl 1 []), .own true), ((.sl 1 []), .own true), ((.sl 1 []), .own true), ((.sl 7 []), .own true)], leafs := [.slice 9, .slice 9, .slice 9, .slice 123], deep := false }
def T30 : TyD := { under := .struct [(0, 24), (1, 24), (2, 24), (3, 27)], size := 4, bytes := 96, zv := [((.sl 1 []), .own true), ((.sl 1 []), .own true), ((.sl 1 []), .own true), ((.sl 7 []), .own true)], leafs := [.slice 9, .slice 9, .slice 9, .slice 123], deep := false }
def T33 : TyD := { under := .slice 50, size := 1, bytes := 24, zv := [((.sl 8 []), .own true)], leafs := [.slice 50], deep := true }
def T35 : TyD := { under := .pointer, size := 1, bytes := 8, zv := [(.nilp, .pr)], leafs := [.pointer], deep := false }
def T37 : TyD := { under := .struct [(0, 22), (1, 3)], size := 2, bytes := 32, zv := [((.sl 1 []), .own true), ((.int .i64 (0 : Int)), .pr)], leafs := [.slice 3, .int .i64], deep := false }
def T39 : TyD := { under := .slice 47, size := 1, bytes := 24, zv := [((.sl 4 []), .own true)], leafs := [.slice 47], deep := false }
def T47 : TyD := { under := .struct [(0, 3), (1, 3), (2, 2), (3, 9)], size := 4, bytes := 40, zv := [((.int .i64 (0 : Int)), .pr), ((.int .i64 (0 : Int)), .pr), ((.int .i64 (0 : Int)), .pr), ((.str ⟨#[]⟩), .pr)], leafs := [.int .i64, .int .i64, .int .i64, .string], deep := false, cmp := true }
def T48 : TyD := { under := .slice 53, size := 1, bytes := 24, zv := [((.sl 5 []), .own true)], leafs := [.slice 53], deep := true }
def T50 : TyD := { under := .struct [(0, 3), (1, 9), (2, 9), (3, 48), (4, 3), (5, 33), (6, 33), (7, 3)], size := 8, bytes := 128, zv := [((.int .i64 (0 : Int)), .pr), ((.str ⟨#[]⟩), .pr), ((.str ⟨#[]⟩), .pr), ((.sl 5 []), .own true), ((.int .i64 (0 : Int)), .pr), ((.sl 8 []), .own true), ((.sl 8 []), .own true), ((.int .i64 (0 : Int)), .pr)], leafs := [.int .i64, .string, .string, .slice 53, .int .i64, .slice 50, .slice 50, .int .i64], deep := true }
def T53 : TyD := { under := .struct [(0, 3), (1, 2), (2, 9), (3, 48), (4, 3)], size := 5, bytes := 64, zv := [((.int .i64 (0 : Int)), .pr), ((.int .i64 (0 : Int)), .pr), ((.str ⟨#[]⟩), .pr), ((.sl 5 []), .own true), ((.int .i64 (0 : Int)), .pr)], leafs := [.int .i64, .int .i64, .string, .slice 53, .int .i64], deep := true }
def T58 : TyD := { under := .slice 2, size := 1, bytes := 24, zv := [((.sl 1 []), .own true)], leafs := [.slice 2], deep := false }
def T59 : TyD := { under := .slice 22, size := 1, bytes := 24, zv := [((.sl 1 []), .own true)], leafs := [.slice 22], deep := false }
def T61 : TyD := { under := .struct [(0, 22), (1, 58), (2, 59)], size := 3, bytes := 72, zv := [((.sl 1 []), .own true), ((.sl 1 []), .own true), ((.sl 1 []), .own true)], leafs := [.slice 3, .slice 2, .slice 22], deep := false }
def T65 : TyD := { under := .slice 77, size := 1, bytes := 24, zv := [((.sl 2 []), .own true)], leafs := [.slice 77], deep := false }
def T66 : TyD := { under := .slice 79, size := 1, bytes := 24, zv := [((.sl 4 []), .own true)], leafs := [.slice 79], deep := false }
def T67 : TyD := { under := .int .i64, size := 1, bytes := 8, zv := [((.int .i64 (0 : Int)), .pr)], leafs := [.int .i64], deep := false }
def T69 : TyD := { under := .struct [(0, 2), (1, 58), (2, 65), (3, 66), (4, 3), (5, 67)], size := 6, bytes := 96, zv := [((.int .i64 (0 : Int)), .pr), ((.sl 1 []), .own true), ((.sl 2 []), .own true), ((.sl 4 []), .own true), ((.int .i64 (0 : Int)), .pr), ((.int .i64 (0 : Int)), .pr)], leafs := [.int .i64, .slice 2, .slice 77, .slice 79, .int .i64, .int .i64], deep := false }
def T71 : TyD := { under := .struct [(0, 2), (1, 58), (2, 65), (3, 66), (4, 3), (5, 67)], size := 6, bytes := 96, zv := [((.int .i64 (0 : Int)), .pr), ((.sl 1 []), .own true), ((.sl 2 []), .own true), ((.sl 4 []), .own true), ((.int .i64 (0 : Int)), .pr), ((.int .i64 (0 : Int)), .pr)], leafs := [.int .i64, .slice 2, .slice 77, .slice 79, .int .i64, .int .i64], deep := false }
def T74 : TyD := { under := .int .u16, size := 1, bytes := 2, zv := [((.int .u16 (0 : Int)), .pr)], leafs := [.int .u16], deep := false }
def T77 : TyD := { under := .struct [(0, 9), (1, 2)], size := 2, bytes := 24, zv := [((.str ⟨#[]⟩), .pr), ((.int .i64 (0 : Int)), .pr)], leafs := [.string, .int .i64], deep := false, cmp := true }
def T79 : TyD := { under := .struct [(0, 3), (1, 3), (2, 77)], size := 4, bytes := 40, zv := [((.int .i64 (0 : Int)), .pr), ((.int .i64 (0 : Int)), .pr), ((.str ⟨#[]⟩), .pr), ((.int .i64 (0 : Int)), .pr)], leafs := [.int .i64, .int .i64, .string, .int .i64], deep := false, cmp := true }
def T81 : TyD := { under := .array 2 2, size := 2, bytes := 16, zv := [((.int .i64 (0 : Int)), .pr), ((.int .i64 (0 : Int)), .pr)], leafs := [.int .i64, .int .i64], deep := false }
def T87 : TyD := { under := .slice 164, size := 1, bytes := 24, zv := [((.sl 5 []), .own true)], leafs := [.slice 164], deep := true }
def T88 : TyD := { under := .slice 90, size := 1, bytes := 24, zv := [((.sl 7 []), .own true)], leafs := [.slice 90], deep := true }
def T90 : TyD := { under := .struct [(0, 3), (1, 9), (2, 33), (3, 33), (4, 87), (5, 88), (6, 3)], size := 7, bytes := 128, zv := [((.int .i64 (0 : Int)), .pr), ((.str ⟨#[]⟩), .pr), ((.sl 8 []), .own true), ((.sl 8 []), .own true), ((.sl 5 []), .own true), ((.sl 7 []), .own true), ((.int .i64 (0 : Int)), .pr)], leafs := [.int .i64, .string, .slice 50, .slice 50, .slice 164, .slice 90, .int .i64], deep := true }
def T91 : TyD := { under := .slice 166, size := 1, bytes := 24, zv := [((.sl 3 []), .own true)], leafs := [.slice 166], deep := false }
def T93 : TyD := { under := .struct [(0, 9), (1, 3), (2, 3), (3, 91), (4, 91), (5, 91), (6, 88), (7, 3)], size := 8, bytes := 136, zv := [((.str ⟨#[]⟩), .pr), ((.int .i64 (0 : Int)), .pr), ((.int .i64 (0 : Int)), .pr), ((.sl 3 []), .own true), ((.sl 3 []), .own true), ((.sl 3 []), .own true), ((.sl 7 []), .own true), ((.int .i64 (0 : Int)), .pr)], leafs := [.string, .int .i64, .int .i64, .slice 166, .slice 166, .slice 166, .slice 90, .int .i64], deep := true }
def T97 : TyD := { under := .pointer, size := 1, bytes := 8, zv := [(.nilp, .pr)], leafs := [.pointer], deep := false }
def T99 : TyD := { under := .struct [(0, 29), (4, 39)], size := 5, bytes := 120, zv := [((.sl 1 []), .own true), ((.sl 1 []), .own true), ((.sl 1 []), .own true), ((.sl 7 []), .own true), ((.sl 4 []), .own true)], leafs := [.slice 9, .slice 9, .slice 9, .slice 123, .slice 47], deep := false }
def T102 : TyD := { under := .array 6 3, size := 6, bytes := 48, zv := [((.int .i64 (0 : Int)), .pr), ((.int .i64 (0 : Int)), .pr), ((.int .i64 (0 : Int)), .pr), ((.int .i64 (0 : Int)), .pr), ((.int .i64 (0 : Int)), .pr), ((.int .i64 (0 : Int)), .pr)], leafs := [.int .i64, .int .i64, .int .i64, .int .i64, .int .i64, .int .i64], deep := false }
def T106 : TyD := { under := .pointer, size := 1, bytes := 8, zv := [(.nilp, .pr)], leafs := [.pointer], deep := false }
def T107 : TyD := { under := .pointer, size := 1, bytes := 8, zv := [(.nilp, .pr)], leafs := [.pointer], deep := false }
def T108 : TyD := { under := .int .u64, size := 1, bytes := 8, zv := [((.int .u64 (0 : Int)), .pr)], leafs := [.int .u64], deep := false }
def T109 : TyD := { under := .array 2 108, size := 2, bytes := 16, zv := [((.int .u64 (0 : Int)), .pr), ((.int .u64 (0 : Int)), .pr)], leafs := [.int .u64, .int .u64], deep := false }
def T111 : TyD := { under := .struct [(0, 109)], size := 2, bytes := 16, zv := [((.int .u64 (0 : Int)), .pr), ((.int .u64 (0 : Int)), .pr)], leafs := [.int .u64, .int .u64], deep := false, cmp := true }
def T114 : TyD := { under := .struct [(0, 39), (1, 107), (2, 111), (4, 2), (5, 58), (6, 58), (7, 3)], size := 8, bytes := 112, zv := [((.sl 4 []), .own true), (.nilp, .pr), ((.int .u64 (0 : Int)), .pr), ((.int .u64 (0 : Int)), .pr), ((.int .i64 (0 : Int)), .pr), ((.sl 1 []), .own true), ((.sl 1 []), .own true), ((.int .i64 (0 : Int)), .pr)], leafs := [.slice 47, .pointer, .int .u64, .int .u64, .int .i64, .slice 2, .slice 2, .int .i64], deep := false }
def T117 : TyD := { under := .pointer, size := 1, bytes := 8, zv := [(.nilp, .pr)], leafs := [.pointer], deep := false }
def T119 : TyD := { under := .struct [(0, 71), (6, 22), (7, 2), (8, 58), (9, 58), (10, 3)], size := 11, bytes := 184, zv := [((.int .i64 (0 : Int)), .pr), ((.sl 1 []), .own true), ((.sl 2 []), .own true), ((.sl 4 []), .own true), ((.int .i64 (0 : Int)), .pr), ((.int .i64 (0 : Int)), .pr), ((.sl 1 []), .own true), ((.int .i64 (0 : Int)), .pr), ((.sl 1 []), .own true), ((.sl 1 []), .own true), ((.int .i64 (0 : Int)), .pr)], leafs := [.int .i64, .slice 2, .slice 77, .slice 79, .int .i64, .int .i64, .slice 3, .int .i64, .slice 2, .slice 2, .int .i64], deep := false }
def T123 : TyD := { under := .struct [(0, 3), (1, 3), (2, 3), (3, 3), (4, 3), (5, 3), (6, 9)], size := 7, bytes := 64, zv := [((.int .i64 (0 : Int)), .pr), ((.int .i64 (0 : Int)), .pr), ((.int .i64 (0 : Int)), .pr), ((.int .i64 (0 : Int)), .pr), ((.int .i64 (0 : Int)), .pr), ((.int .i64 (0 : Int)), .pr), ((.str ⟨#[]⟩), .pr)], leafs := [.int .i64, .int .i64, .int .i64, .int .i64, .int .i64, .int .i64, .string], deep := false }
def T124 : TyD := { under := .array 8 9, size := 8, bytes := 128, zv := [((.str ⟨#[]⟩), .pr), ((.str ⟨#[]⟩), .pr), ((.str ⟨#[]⟩), .pr), ((.str ⟨#[]⟩), .pr), ((.str ⟨#[]⟩), .pr), ((.str ⟨#[]⟩), .pr), ((.str ⟨#[]⟩), .pr), ((.str ⟨#[]⟩), .pr)], leafs := [.string, .string, .string, .string, .string, .string, .string, .string], deep := false }
def T164 : TyD := { under := .struct [(0, 9), (1, 48), (2, 9), (3, 33), (4, 3)], size := 5, bytes := 88, zv := [((.str ⟨#[]⟩), .pr), ((.sl 5 []), .own true), ((.str ⟨#[]⟩), .pr), ((.sl 8 []), .own true), ((.int .i64 (0 : Int)), .pr)], leafs := [.string, .slice 53, .string, .slice 50, .int .i64], deep := true }
def T166 : TyD := { under := .struct [(0, 9), (1, 2), (2, 3)], size := 3, bytes := 32, zv := [((.str ⟨#[]⟩), .pr), ((.int .i64 (0 : Int)), .pr), ((.int .i64 (0 : Int)), .pr)], leafs := [.string, .int .i64, .int .i64], deep := false }
def S3 : Sig := { params := [.val .ro (.sl 1)], boxes := [], outs := [(.pr, .bool)] }
def S4 : Sig := { params := [.val .ro (.sl 1), .val .pr (.int .i64)], boxes := [], outs := [(.pr, .bool)] }
def S5 : Sig := { params := [.val .ro (.sl 1)], boxes := [], outs := [(.pr, .bool)] }
def S6 : Sig := { params := [.val .ro (.sl 1), .val .pr (.int .u8)], boxes := [], outs := [(.pr, .bool)] }
def S7 : Sig := { params := [.val .ro (.sl 1)], boxes := [], outs := [(.pr, .bool)] }
def S8 : Sig := { params := [.val .ro (.sl 1), .val .pr .bool, .val .pr (.int .i64), .val .pr (.int .i64), .val .pr .bool, .val .pr (.int .i64), .val .pr (.int .i64)], boxes := [], outs := [(.pr, .bool)] }
def S9 : Sig := { params := [.val .ro (.sl 1), .val .pr (.int .i64), .val .pr (.int .i64), .val .pr (.int .i64), .val .pr (.int .u16)], boxes := [], outs := [(.pr, .bool)] }
def S10 : Sig := { params := [.val .ro (.sl 1), .val .pr .bool, .val .pr (.int .i64), .val .pr (.int .i64), .val .pr (.int .i64)], boxes := [], outs := [(.pr, .bool)] }
def S11 : Sig := { params := [.val .pr (.int .i64), .val .pr (.int .i64), .val .pr .bool], boxes := [], outs := [(.pr, .bool)] }
def S12 : Sig := { params := [.val .pr (.int .i64), .val .pr (.int .i64), .val .pr (.int .u8)], boxes := [], outs := [(.pr, .bool)] }
def S13 : Sig := { params := [.val .ro (.sl 1), .val .pr (.int .i64), .val .pr (.int .i64)], boxes := [], outs := [(.pr, .bool)] }
def S14 : Sig := { params := [], boxes := [], outs := [(.pr, .bool)] }
def S15 : Sig := { params := [], boxes := [], outs := [(.ro, .agg [.sl 1, .sl 1, .sl 1, .sl 1]), (.ro, .agg [.sl 1, .sl 1, .sl 1, .sl 7]), (.ro, .agg [.sl 1, .sl 1, .sl 1, .sl 7])] }
def S16 : Sig := { params := [.ptr 0 0, .val .ro (.agg [.sl 1, .sl 1, .sl 1, .sl 1]), .val .pr (.int .i64)], boxes := [[.fix (.sl 1), .val .pr (.int .i64)]], outs := [((.own true), .sl 8)] }
def S17 : Sig := { params := [.val .ro (.sl 4), .val .ro (.sl 4)], boxes := [], outs := [(.pr, .bool)] }
def S18 : Sig := { params := [.val .ro (.sl 8), .val .ro (.agg [.sl 1, .sl 1, .sl 1, .sl 7])], boxes := [], outs := [((.own true), .sl 4)] }
def S19 : Sig := { params := [.val .ro (.sl 8), .val .ro (.agg [.sl 1, .sl 1, .sl 1, .sl 7])], boxes := [], outs := [((.own true), .sl 4)] }
def S20 : Sig := { params := [.val .ro (.sl 4), .val .pr (.int .i64)], boxes := [], outs := [(.pr, .int .i64)] }
def S21 : Sig := { params := [.val .ro (.sl 4), .val .pr (.int .i64)], boxes := [], outs := [(.pr, .int .i64)] }
def S22 : Sig := { params := [.val .ro (.sl 4)], boxes := [], outs := [(.pr, .int .i64)] }
def S23 : Sig := { params := [.ptr 0 0, .val .ro (.agg [.sl 1, .sl 1, .sl 1, .sl 1]), .val .pr (.int .i64)], boxes := [[.fix (.sl 1), .val .pr (.int .i64)]], outs := [((.own true), .agg [.int .i64, .int .i64, .str, .sl 5, .int .i64])] }
def S24 : Sig := { params := [.val .ro (.agg [.int .i64, .int .i64, .str, .sl 5, .int .i64]), .val .ro (.agg [.sl 1, .sl 1, .sl 1, .sl 7])], boxes := [], outs := [((.own true), .sl 4)] }
def S25 : Sig := { params := [.val .ro (.agg [.int .i64, .int .i64, .str, .sl 5, .int .i64]), .val .ro (.agg [.sl 1, .sl 1, .sl 1, .sl 7])], boxes := [], outs := [((.own true), .sl 4)] }
def S26 : Sig := { params := [], boxes := [], outs := [(.pr, .bool)] }
def S27 : Sig := { params := [.val .ro (.sl 1), .val .pr .bool], boxes := [], outs := [((.own true), .sl 4)] }
def S28 : Sig := { params := [.val .pr (.int .i64), .val .pr (.int .i64), .val .pr .bool], boxes := [], outs := [(.ro, .agg [.sl 1, .sl 1, .sl 1])] }
def S29 : Sig := { params := [.val .pr (.int .i64), .val .pr (.int .i64)], boxes := [], outs := [(.pr, .int .i64)] }
def S30 : Sig := { params := [.val .ro (.agg [.int .i64, .sl 1, .sl 2, .sl 4, .int .i64, .int .i64]), .val .ro (.agg [.int .i64, .sl 1, .sl 2, .sl 4, .int .i64, .int .i64])], boxes := [], outs := [(.pr, .bool)] }
def S31 : Sig := { params := [.val .ro (.sl 4), .val .ro (.agg [.sl 1, .sl 1, .sl 1]), .val .pr (.int .i64), .val .pr (.int .i64)], boxes := [], outs := [((.own false), .agg [.int .i64, .sl 1, .sl 2, .sl 4, .int .i64, .int .i64])] }
def S32 : Sig := { params := [.val .ro (.sl 4), .val .ro (.agg [.sl 1, .sl 1, .sl 1]), .val .pr (.int .i64), .val .pr (.int .i64)], boxes := [], outs := [((.own false), .agg [.int .i64, .sl 1, .sl 2, .sl 4, .int .i64, .int .i64])] }
def S33 : Sig := { params := [.val .ro (.sl 1), .val .ro (.sl 1)], boxes := [], outs := [(.pr, .bool)] }
def S34 : Sig := { params := [.val .ro (.sl 4)], boxes := [], outs := [(.pr, .int .i64)] }
def S35 : Sig := { params := [.val .ro (.agg [.str, .int .i64, .int .i64, .sl 3, .sl 3, .sl 3, .sl 7, .int .i64])], boxes := [], outs := [((.own true), .sl 7)] }
def S36 : Sig := { params := [.ptr 0 0, .val .pr (.int .i64)], boxes := [[.fix (.sl 1), .val .pr (.int .i64)]], outs := [(.pr, .int .i64)] }
def S37 : Sig := { params := [.ptr 0 0, .val .ro (.sl 1), .val .pr .str], boxes := [[.fix (.sl 1), .val .pr (.int .i64)]], outs := [(.pr, .str)] }
def S38 : Sig := { params := [.val .pr (.int .i64)], boxes := [], outs := [(.pr, .str)] }
def S39 : Sig := { params := [.ptr 0 0, .val .ro (.sl 8)], boxes := [[.fix (.sl 1), .fix (.sl 1), .fix (.sl 1), .fix (.sl 7), .val (.own true) (.sl 4)]], outs := [] }
def S40 : Sig := { params := [.val (.own true) (.sl 4), .val .ro (.sl 8), .val .ro (.agg [.sl 1, .sl 1, .sl 1, .sl 7])], boxes := [], outs := [((.own true), .sl 4)] }
def S41 : Sig := { params := [.ptr 0 0, .val .ro (.agg [.int .i64, .int .i64, .str, .sl 5, .int .i64])], boxes := [[.fix (.sl 1), .fix (.sl 1), .fix (.sl 1), .fix (.sl 7), .val (.own true) (.sl 4)]], outs := [] }
def S42 : Sig := { params := [.val (.own true) (.sl 4), .val .ro (.agg [.int .i64, .int .i64, .str, .sl 5, .int .i64]), .val .ro (.agg [.sl 1, .sl 1, .sl 1, .sl 7])], boxes := [], outs := [((.own true), .sl 4)] }
def S43 : Sig := { params := [.val .ro (.sl 1)], boxes := [], outs := [((.own false), .sl 1)] }
def S44 : Sig := { params := [.val .ro (.sl 1)], boxes := [], outs := [(.ro, .agg [.int .u64, .int .u64])] }
def S45 : Sig := { params := [.ptr 0 0], boxes := [[.val .pr (.int .i64), .fix (.sl 1), .fix (.sl 2), .fix (.sl 4), .val .pr (.int .i64), .val .pr (.int .i64)]], outs := [] }
def S46 : Sig := { params := [.ptr 0 0, .val .ro (.agg [.int .i64, .int .i64, .int .i64, .str])], boxes := [[.fix (.sl 4), .ptr 1 0, .val .pr (.int .u64), .val .pr (.int .u64), .val .pr (.int .i64), .val (.own true) (.sl 1), .val (.own true) (.sl 1), .val .pr (.int .i64)], [.val .pr (.int .i64), .val (.own false) (.sl 1), .val (.own true) (.sl 2), .val (.own true) (.sl 4), .val .pr (.int .i64), .val .pr (.int .i64)]], outs := [], pan := true }
def S47 : Sig := { params := [.ptr 0 0, .val .ro (.agg [.int .i64, .int .i64, .int .i64, .str])], boxes := [[.val .pr (.int .i64), .val (.own false) (.sl 1), .val (.own false) (.sl 2), .val (.own false) (.sl 4), .val .pr (.int .i64), .val .pr (.int .i64), .fix (.sl 1), .val .pr (.int .i64), .val (.own false) (.sl 1), .val (.own false) (.sl 1), .val .pr (.int .i64)]], outs := [(.pr, .int .i64)] }
def S48 : Sig := { params := [.ptr 0 0, .val .ro (.agg [.int .i64, .int .i64, .int .i64, .str])], boxes := [[.val .pr (.int .i64), .val (.own false) (.sl 1), .val (.own false) (.sl 2), .val (.own false) (.sl 4), .val .pr (.int .i64), .val .pr (.int .i64), .fix (.sl 1), .val .pr (.int .i64), .val (.own false) (.sl 1), .val (.own false) (.sl 1), .val .pr (.int .i64)]], outs := [(.pr, .int .i64)] }
def S49 : Sig := { params := [.ptr 0 0, .val .ro (.agg [.int .i64, .int .i64, .int .i64, .str])], boxes := [[.val .pr (.int .i64), .val (.own false) (.sl 1), .val (.own false) (.sl 2), .val (.own false) (.sl 4), .val .pr (.int .i64), .val .pr (.int .i64), .fix (.sl 1), .val .pr (.int .i64), .val (.own false) (.sl 1), .val (.own false) (.sl 1), .val .pr (.int .i64)]], outs := [] }
def S50 : Sig := { params := [.val (.own true) (.sl 7), .val .ro (.sl 7), .val .pr (.int .i64)], boxes := [], outs := [((.own true), .sl 7)] }
def S51 : Sig := { params := [.ptr 0 0, .val .ro (.agg [.int .i64, .str, .str, .sl 5, .int .i64, .sl 8, .sl 8, .int .i64])], boxes := [[.fix (.sl 1), .fix (.sl 1), .fix (.sl 1), .fix (.sl 7), .val (.own true) (.sl 4)]], outs := [] }
def S52 : Sig := { params := [.ptr 0 0, .val .ro (.agg [.int .i64, .str, .str, .sl 5, .int .i64, .sl 8, .sl 8, .int .i64])], boxes := [[.fix (.sl 1), .fix (.sl 1), .fix (.sl 1), .fix (.sl 7), .val (.own true) (.sl 4)]], outs := [] }
def S53 : Sig := { params := [.ptr 0 0, .val .ro (.agg [.int .i64, .str, .str, .sl 5, .int .i64, .sl 8, .sl 8, .int .i64])], boxes := [[.fix (.sl 1), .fix (.sl 1), .fix (.sl 1), .fix (.sl 7), .val (.own true) (.sl 4)]], outs := [] }
def S54 : Sig := { params := [.val (.own true) (.sl 4), .val .ro (.agg [.int .i64, .str, .str, .sl 5, .int .i64, .sl 8, .sl 8, .int .i64]), .val .ro (.agg [.sl 1, .sl 1, .sl 1, .sl 7])], boxes := [], outs := [((.own true), .sl 4)] }
def S55 : Sig := { params := [.ptr 0 0, .val .pr (.int .i64)], boxes := [[.fix (.sl 1), .fix (.sl 1), .fix (.sl 1), .fix (.sl 7), .val (.own true) (.sl 4)]], outs := [] }
def S56 : Sig := { params := [.ptr 0 0, .val .ro (.agg [.int .i64, .int .i64, .int .i64, .str])], boxes := [[.fix (.sl 1), .fix (.sl 1), .fix (.sl 1), .fix (.sl 7), .val (.own true) (.sl 4)]], outs := [(.pr, .int .i64)] }
def S57 : Sig := { params := [.val .ro (.sl 1), .val .pr .str], boxes := [], outs := [(.pr, .int .i64)] }
def S58 : Sig := { params := [.val .ro (.sl 7), .val .pr .str], boxes := [], outs := [(.pr, .int .i64)] }
def S59 : Sig := { params := [.ptr 0 0, .val .ro (.agg [.int .i64, .int .i64, .str, .sl 5, .int .i64])], boxes := [[.fix (.sl 1), .fix (.sl 1), .fix (.sl 1), .fix (.sl 7), .val (.own true) (.sl 4)]], outs := [] }
def S60 : Sig := { params := [.val .pr (.int .i64)], boxes := [], outs := [(.pr, .int .i64)] }
def S61 : Sig := { params := [.val .ro (.sl 1), .val .pr .str], boxes := [], outs := [(.pr, .int .i64)] }
def S62 : Sig := { params := [.val .ro (.sl 7), .val .pr .str], boxes := [], outs := [(.pr, .int .i64)] }
def S63 : Sig := { params := [.val .pr (.int .i64)], boxes := [], outs := [(.pr, .int .i64)] }
def S64 : Sig := { params := [.val (.own true) (.sl 4), .val .ro (.agg [.int .i64, .int .i64, .str, .sl 5, .int .i64]), .val .ro (.agg [.sl 1, .sl 1, .sl 1, .sl 7])], boxes := [], outs := [((.own true), .sl 4)] }
def S65 : Sig := { params := [.val (.own true) (.sl 4), .val .ro (.agg [.int .i64, .int .i64, .str, .sl 5, .int .i64]), .val .ro (.agg [.sl 1, .sl 1, .sl 1, .sl 7])], boxes := [], outs := [((.own true), .sl 4)] }
def S66 : Sig := { params := [.val .ro (.agg [.int .u64, .int .u64]), .val .pr (.int .i64)], boxes := [], outs := [(.ro, .agg [.int .u64, .int .u64])] }
def S67 : Sig := { params := [.ptr 0 0, .val .pr (.int .i64)], boxes := [[.fix (.sl 4), .ptr 1 0, .val .pr (.int .u64), .val .pr (.int .u64), .val .pr (.int .i64), .val (.own true) (.sl 1), .val (.own true) (.sl 1), .val .pr (.int .i64)], [.val .pr (.int .i64), .val (.own false) (.sl 1), .val (.own true) (.sl 2), .val (.own true) (.sl 4), .val .pr (.int .i64), .val .pr (.int .i64)]], outs := [] }
def S68 : Sig := { params := [.val .pr .bool], boxes := [], outs := [(.pr, .int .i64)] }
def S69 : Sig := { params := [.val .ro (.agg [.int .u64, .int .u64]), .val .pr (.int .i64)], boxes := [], outs := [(.pr, .bool)] }
def S70 : Sig := { params := [.val .pr (.int .i64), .val .pr (.int .i64)], boxes := [], outs := [(.pr, .int .i64)], pan := true }
def S71 : Sig := { params := [.val .pr (.int .i64)], boxes := [], outs := [(.pr, .int .i64), (.pr, .int .i64)] }
def S72 : Sig := { params := [.ptr 0 0], boxes := [[.fix (.sl 4), .ptr 1 0, .val .pr (.int .u64), .val .pr (.int .u64), .val .pr (.int .i64), .val (.own true) (.sl 1), .val (.own true) (.sl 1), .val .pr (.int .i64)], [.val .pr (.int .i64), .val (.own false) (.sl 1), .val (.own true) (.sl 2), .val (.own true) (.sl 4), .val .pr (.int .i64), .val .pr (.int .i64)]], outs := [(.pr, .int .i64)] }
def S73 : Sig := { params := [.ptr 0 0, .val .ro (.agg [.int .i64, .int .i64, .int .i64, .str])], boxes := [[.fix (.sl 4), .ptr 1 0, .val .pr (.int .u64), .val .pr (.int .u64), .val .pr (.int .i64), .val (.own true) (.sl 1), .val (.own true) (.sl 1), .val .pr (.int .i64)], [.val .pr (.int .i64), .val (.own false) (.sl 1), .val (.own true) (.sl 2), .val (.own true) (.sl 4), .val .pr (.int .i64), .val .pr (.int .i64)]], outs := [], pan := true }
def S74 : Sig := { params := [.ptr 0 0, .val .ro (.agg [.int .i64, .int .i64, .int .i64, .str])], boxes := [[.fix (.sl 4), .ptr 1 0, .val .pr (.int .u64), .val .pr (.int .u64), .val .pr (.int .i64), .val (.own true) (.sl 1), .val (.own true) (.sl 1), .val .pr (.int .i64)], [.val .pr (.int .i64), .val (.own false) (.sl 1), .val (.own true) (.sl 2), .val (.own true) (.sl 4), .val .pr (.int .i64), .val .pr (.int .i64)]], outs := [] }
def S75 : Sig := { params := [.val .pr (.int .i64), .val .pr (.int .i64), .val .pr (.int .i64)], boxes := [], outs := [(.pr, .int .i64)], pan := true }
def S76 : Sig := { params := [.ptr 0 0, .val .pr (.int .i64)], boxes := [[.val .pr (.int .i64), .val (.own false) (.sl 1), .val (.own false) (.sl 2), .val (.own false) (.sl 4), .val .pr (.int .i64), .val .pr (.int .i64), .fix (.sl 1), .val .pr (.int .i64), .val (.own false) (.sl 1), .val (.own false) (.sl 1), .val .pr (.int .i64)]], outs := [] }
def S77 : Sig := { params := [.val .pr .bool], boxes := [], outs := [(.pr, .int .i64)] }
def S78 : Sig := { params := [.val .ro (.sl 1), .val .pr (.int .i64)], boxes := [], outs := [(.pr, .bool)] }
def S79 : Sig := { params := [.ptr 0 0], boxes := [[.val .pr (.int .i64), .val (.own false) (.sl 1), .val (.own false) (.sl 2), .val (.own false) (.sl 4), .val .pr (.int .i64), .val .pr (.int .i64), .fix (.sl 1), .val .pr (.int .i64), .val (.own false) (.sl 1), .val (.own false) (.sl 1), .val .pr (.int .i64)]], outs := [(.pr, .int .i64)] }
def S80 : Sig := { params := [.val .pr (.int .i64)], boxes := [], outs := [(.pr, .int .i64), (.pr, .int .i64)] }
def S81 : Sig := { params := [.val .pr (.int .i64), .val .pr (.int .i64), .val .pr (.int .i64)], boxes := [], outs := [(.pr, .int .i64), (.pr, .int .i64)] }
def S82 : Sig := { params := [.val .ro (.agg [.int .i64, .str, .sl 8, .sl 8, .sl 5, .sl 7, .int .i64])], boxes := [], outs := [(.pr, .int .i64)] }
def S83 : Sig := { params := [.val .ro (.agg [.int .i64, .int .i64, .int .i64, .int .i64, .int .i64, .int .i64, .str])], boxes := [], outs := [(.pr, .bool)] }
def S84 : Sig := { params := [.ptr 0 0, .val .pr (.int .i64)], boxes := [[.fix (.sl 1), .fix (.sl 1), .fix (.sl 1), .fix (.sl 7), .val (.own true) (.sl 4)]], outs := [] }
def S85 : Sig := { params := [.ptr 0 0, .val .ro (.agg [.int .i64, .str, .str, .sl 5, .int .i64, .sl 8, .sl 8, .int .i64])], boxes := [[.fix (.sl 1), .fix (.sl 1), .fix (.sl 1), .fix (.sl 7), .val (.own true) (.sl 4)]], outs := [] }
def S86 : Sig := { params := [.val (.own true) (.sl 4), .val .ro (.sl 5), .val .ro (.agg [.sl 1, .sl 1, .sl 1, .sl 7])], boxes := [], outs := [((.own true), .sl 4)] }
def S88 : Sig := { params := [.val .ro (.agg [.int .i64, .int .i64, .int .i64, .int .i64, .int .i64, .int .i64, .str]), .ptr 0 0], boxes := [[.val .pr .str]], outs := [(.pr, .bool)] }
def S89 : Sig := { params := [.val .pr (.int .i64)], boxes := [], outs := [(.pr, .bool)] }
def S90 : Sig := { params := [.val .pr (.int .i64), .val .pr (.int .i64)], boxes := [], outs := [(.pr, .int .i64), (.pr, .int .i64)] }
def S91 : Sig := { params := [.ptr 0 0, .val .pr (.int .i64), .val .pr (.int .i64), .val .ro (.agg [.str, .int .i64])], boxes := [[.fix (.sl 4), .ptr 1 0, .val .pr (.int .u64), .val .pr (.int .u64), .val .pr (.int .i64), .val (.own true) (.sl 1), .val (.own true) (.sl 1), .val .pr (.int .i64)], [.val .pr (.int .i64), .val (.own false) (.sl 1), .val (.own true) (.sl 2), .val (.own true) (.sl 4), .val .pr (.int .i64), .val .pr (.int .i64)]], outs := [] }
def S92 : Sig := { params := [.val .pr (.int .i64), .val .pr (.int .i64)], boxes := [], outs := [(.pr, .int .i64), (.pr, .int .i64)] }
def S93 : Sig := { params := [.val .pr (.int .i64), .val .pr (.int .i64)], boxes := [], outs := [(.pr, .int .i64), (.pr, .int .i64)] }
def S94 : Sig := { params := [.val .pr (.int .i64), .val .pr (.int .i64)], boxes := [], outs := [(.pr, .int .i64), (.pr, .int .i64)] }
def S95 : Sig := { params := [.val .pr (.int .i64), .val .pr (.int .i64)], boxes := [], outs := [(.pr, .int .i64), (.pr, .int .i64)] }
def S96 : Sig := { params := [.val .pr (.int .i64), .val .pr (.int .i64)], boxes := [], outs := [(.pr, .int .i64), (.pr, .int .i64)] }
def S97 : Sig := { params := [.val .pr (.int .i64), .val .pr (.int .i64)], boxes := [], outs := [(.pr, .int .i64), (.pr, .int .i64)] }
def S98 : Sig := { params := [.val .pr (.int .i64), .val .pr (.int .i64)], boxes := [], outs := [(.pr, .int .i64), (.pr, .int .i64)] }
def S99 : Sig := { params := [.val .pr (.int .i64), .val .pr (.int .i64)], boxes := [], outs := [(.pr, .int .i64), (.pr, .int .i64)] }
def S100 : Sig := { params := [.val .pr (.int .i64), .val .pr (.int .i64)], boxes := [], outs := [(.pr, .int .i64), (.pr, .int .i64)] }
def S65623 : Sig := { params := [.val .ro (.sl 7), .clo 88 [(0, 0)]], boxes := [[.val .pr .str]], outs := [(.pr, .int .i64)] }
abbrev ORC (R : Type) := FuncId → List V → (List V → Option R) → Option R
def TAB : Tab := { tys := [(2, T2), (3, T3), (4, T4), (5, T5), (6, T6), (9, T9), (22, T22), (24, T24), (26, T26), (27, T27), (29, T29), (30, T30), (33, T33), (35, T35), (37, T37), (39, T39), (47, T47), (48, T48), (50, T50), (53, T53), (58, T58), (59, T59), (61, T61), (65, T65), (66, T66), (67, T67), (69, T69), (71, T71), (74, T74), (77, T77), (79, T79), (81, T81), (87, T87), (88, T88), (90, T90), (91, T91), (93, T93), (97, T97), (99, T99), (102, T102), (106, T106), (107, T107), (108, T108), (109, T109), (111, T111), (114, T114), (117, T117), (119, T119), (123, T123), (124, T124), (164, T164), (166, T166)], sigs := [(3, S3), (4, S4), (5, S5), (6, S6), (7, S7), (8, S8), (9, S9), (10, S10), (11, S11), (12, S12), (13, S13), (14, S14), (15, S15), (16, S16), (17, S17), (18, S18), (19, S19), (20, S20), (21, S21), (22, S22), (23, S23), (24, S24), (25, S25), (26, S26), (27, S27), (28, S28), (29, S29), (30, S30), (31, S31), (32, S32), (33, S33), (34, S34), (35, S35), (36, S36), (37, S37), (38, S38), (39, S39), (40, S40), (41, S41), (42, S42), (43, S43), (44, S44), (45, S45), (46, S46), (47, S47), (48, S48), (49, S49), (50, S50), (51, S51), (52, S52), (53, S53), (54, S54), (55, S55), (56, S56), (57, S57), (58, S58), (59, S59), (60, S60), (61, S61), (62, S62), (63, S63), (64, S64), (65, S65), (66, S66), (67, S67), (68, S68), (69, S69), (70, S70), (71, S71), (72, S72), (73, S73), (74, S74), (75, S75), (76, S76), (77, S77), (78, S78), (79, S79), (80, S80), (81, S81), (82, S82), (83, S83), (84, S84), (85, S85), (86, S86), (88, S88), (89, S89), (90, S90), (91, S91), (92, S92), (93, S93), (94, S94), (95, S95), (96, S96), (97, S97), (98, S98), (99, S99), (100, S100), (65623, S65623)], takes := [(16, 0, 1), (16, 21, 1), (18, 0, 1), (18, 3, 4), (19, 0, 1), (19, 1, 3), (22, 9, 4), (22, 9, 9), (24, 0, 2), (24, 3, 4), (25, 0, 2), (25, 1, 3), (27, 0, 0), (27, 6, 5), (27, 7, 5), (31, 12, 0), (32, 5, 3), (32, 17, 3), (32, 20, 3), (35, 0, 1), (35, 3, 1), (40, 0, 1), (40, 5, 1), (42, 0, 2), (42, 3, 6), (42, 5, 9), (42, 7, 4), (42, 9, 9), (42, 12, 13), (42, 14, 4), (42, 16, 4), (42, 17, 19), (43, 0, 0), (43, 2, 0), (43, 3, 3), (49, 15, 6), (50, 0, 0), (50, 10, 1), (54, 0, 2), (54, 3, 13), (54, 5, 10), (54, 7, 15), (54, 9, 13), (54, 11, 9), (54, 17, 1), (54, 27, 1), (54, 29, 1), (64, 0, 2), (64, 10, 1), (65, 0, 2), (65, 11, 1), (72, 2, 11), (74, 6, 6), (79, 4, 11), (86, 0, 1), (86, 2, 4), (86, 3, 6)], varis := [(7, 4, 6, 1), (8, 3, 3, 1), (11, 1, 3, 1), (11, 2, 5, 1), (11, 3, 4, 1), (11, 3, 5, 1), (11, 7, 4, 1), (15, 1, 6, 1), (15, 2, 5, 1), (27, 1, 6, 1), (27, 2, 5, 1), (43, 2, 0, 2), (58, 3, 2, 1)], panT := 67, keeps := [(31, [8])] }
theorem TAB_chk : TAB.chk Try.prog = true := by kernel_rfl
theorem MO : Try.prog.follows .mixedOrders = true := by kernel_rfl
set_option maxHeartbeats 4000000
def L95 {R : Type} (_ : ORC R) (_ : Nat) : Nat → St → (Ex → St → Option R) → Option R := fun _ _ _ => none
def f95 {R : Type} (G : ORC R) (k : Nat) (ai1 ai2 : Int) (K : List V → Option R) : Option R :=
  (bif (decide ((bits .and .i64 (bits .xor .i64 ai1 (IntKind.i64.wrap (ai1 + ai2))) (bits .xor .i64 ai2 (IntKind.i64.wrap (ai1 + ai2)))) < 0)) then (K [.int .i64 0, .int .i64 2]) else (K [.int .i64 (IntKind.i64.wrap (ai1 + ai2)), .int .i64 0]))
theorem f95_is {R : Type} (G : ORC R) (k : Nat) (K : List V → Option R) (ai1 ai2 : Int) :
    callF (TAB.env 95) G (L95 G k) Try.f95 S95 [.int .i64 ai1, .int .i64 ai2] K = f95 G k ai1 ai2 K := by kernel_rfl
theorem lo95 : loopsOf (bodyOf Try.f95) = [] := by kernel_rfl
theorem la95 {R : Type} (G : ORC R) (k : Nat) : LoopsAre (TAB.env 95) G (L95 G k) (bodyOf Try.f95) :=
  loopsAre_of (by rw [lo95]; intro p hp; cases hp)
def g95 {R : Type} (G : ORC R) (k : Nat) (args : List V) (K : List V → Option R) : Option R := match args with
  | [.int .i64 ai1, .int .i64 ai2] => f95 G k ai1 ai2 K
  | _ => none
theorem s95 {R : Type} {G : ORC R} {k : Nat} (hG : Sound Try.prog TAB G) (args : List V) (K : List V → Option R) (r : R) (h : g95 G k args K = some r) : ∃ o, CallOK Try.prog TAB.env 95 args o ∧ K o = some r := by
  unfold g95 at h
  split at h
  · rw [← f95_is] at h
    exact callF_sound (f := 95) TAB_chk MO hG Try.func95 (sg := S95) (by kernel_rfl) (by kernel_rfl) (la95 G k) h
  · cases h
def L90 {R : Type} (_ : ORC R) (_ : Nat) : Nat → St → (Ex → St → Option R) → Option R := fun _ _ _ => none
def f90 {R : Type} (G : ORC R) (k : Nat) (ai1 ai2 : Int) (K : List V → Option R) : Option R :=
  (bif (decide ((bits .and .i64 (bits .xor .i64 ai1 ai2) (bits .xor .i64 ai1 (IntKind.i64.wrap (ai1 - ai2)))) < 0)) then (K [.int .i64 0, .int .i64 2]) else (K [.int .i64 (IntKind.i64.wrap (ai1 - ai2)), .int .i64 0]))
theorem f90_is {R : Type} (G : ORC R) (k : Nat) (K : List V → Option R) (ai1 ai2 : Int) :
    callF (TAB.env 90) G (L90 G k) Try.f90 S90 [.int .i64 ai1, .int .i64 ai2] K = f90 G k ai1 ai2 K := by kernel_rfl
theorem lo90 : loopsOf (bodyOf Try.f90) = [] := by kernel_rfl
theorem la90 {R : Type} (G : ORC R) (k : Nat) : LoopsAre (TAB.env 90) G (L90 G k) (bodyOf Try.f90) :=
  loopsAre_of (by rw [lo90]; intro p hp; cases hp)
def g90 {R : Type} (G : ORC R) (k : Nat) (args : List V) (K : List V → Option R) : Option R := match args with
  | [.int .i64 ai1, .int .i64 ai2] => f90 G k ai1 ai2 K
  | _ => none
theorem s90 {R : Type} {G : ORC R} {k : Nat} (hG : Sound Try.prog TAB G) (args : List V) (K : List V → Option R) (r : R) (h : g90 G k args K = some r) : ∃ o, CallOK Try.prog TAB.env 90 args o ∧ K o = some r := by
  unfold g90 at h
  split at h
  · rw [← f90_is] at h
    exact callF_sound (f := 90) TAB_chk MO hG Try.func90 (sg := S90) (by kernel_rfl) (by kernel_rfl) (la90 G k) h
  · cases h
def L92 {R : Type} (_ : ORC R) (_ : Nat) : Nat → St → (Ex → St → Option R) → Option R := fun _ _ _ => none
def f92 {R : Type} (G : ORC R) (k : Nat) (ai1 ai2 : Int) (K : List V → Option R) : Option R :=
  (bif (ai1 == 0) then (K [.int .i64 0, .int .i64 0]) else (bif (ai2 == 0) then (K [.int .i64 0, .int .i64 0]) else (bif (ai1 == (-1)) then (bif (ai2 == (-9223372036854775808)) then (K [.int .i64 0, .int .i64 2]) else (bif (ai2 == (-1)) then (bif (ai1 == (-9223372036854775808)) then (K [.int .i64 0, .int .i64 2]) else (bif (!(ai2 == 0)) then (bif ((IntKind.i64.wrap (Int.tdiv (IntKind.i64.wrap (ai1 * ai2)) ai2)) != ai1) then (K [.int .i64 0, .int .i64 2]) else (K [.int .i64 (IntKind.i64.wrap (ai1 * ai2)), .int .i64 0])) else none)) else (bif (!(ai2 == 0)) then (bif ((IntKind.i64.wrap (Int.tdiv (IntKind.i64.wrap (ai1 * ai2)) ai2)) != ai1) then (K [.int .i64 0, .int .i64 2]) else (K [.int .i64 (IntKind.i64.wrap (ai1 * ai2)), .int .i64 0])) else none))) else (bif (ai2 == (-1)) then (bif (ai1 == (-9223372036854775808)) then (K [.int .i64 0, .int .i64 2]) else (bif (!(ai2 == 0)) then (bif ((IntKind.i64.wrap (Int.tdiv (IntKind.i64.wrap (ai1 * ai2)) ai2)) != ai1) then (K [.int .i64 0, .int .i64 2]) else (K [.int .i64 (IntKind.i64.wrap (ai1 * ai2)), .int .i64 0])) else none)) else (bif (!(ai2 == 0)) then (bif ((IntKind.i64.wrap (Int.tdiv (IntKind.i64.wrap (ai1 * ai2)) ai2)) != ai1) then (K [.int .i64 0, .int .i64 2]) else (K [.int .i64 (IntKind.i64.wrap (ai1 * ai2)), .int .i64 0])) else none)))))
theorem f92_is {R : Type} (G : ORC R) (k : Nat) (K : List V → Option R) (ai1 ai2 : Int) :
    callF (TAB.env 92) G (L92 G k) Try.f92 S92 [.int .i64 ai1, .int .i64 ai2] K = f92 G k ai1 ai2 K := by kernel_rfl
theorem lo92 : loopsOf (bodyOf Try.f92) = [] := by kernel_rfl
theorem la92 {R : Type} (G : ORC R) (k : Nat) : LoopsAre (TAB.env 92) G (L92 G k) (bodyOf Try.f92) :=
  loopsAre_of (by rw [lo92]; intro p hp; cases hp)
def g92 {R : Type} (G : ORC R) (k : Nat) (args : List V) (K : List V → Option R) : Option R := match args with
  | [.int .i64 ai1, .int .i64 ai2] => f92 G k ai1 ai2 K
  | _ => none
theorem s92 {R : Type} {G : ORC R} {k : Nat} (hG : Sound Try.prog TAB G) (args : List V) (K : List V → Option R) (r : R) (h : g92 G k args K = some r) : ∃ o, CallOK Try.prog TAB.env 92 args o ∧ K o = some r := by
  unfold g92 at h
  split at h
  · rw [← f92_is] at h
    exact callF_sound (f := 92) TAB_chk MO hG Try.func92 (sg := S92) (by kernel_rfl) (by kernel_rfl) (la92 G k) h
  · cases h
def L93 {R : Type} (_ : ORC R) (_ : Nat) : Nat → St → (Ex → St → Option R) → Option R := fun _ _ _ => none
def f93 {R : Type} (G : ORC R) (k : Nat) (ai1 ai2 : Int) (K : List V → Option R) : Option R :=
  (bif (ai2 == 0) then (K [.int .i64 0, .int .i64 3]) else (bif (ai2 == (-1)) then (G 71 [.int .i64 ai1] fun o3 => uI .i64 o3 fun n5 r4 => uI .i64 r4 fun n7 r6 => unNil r6 (K [.int .i64 n5, .int .i64 n7])) else (bif (!(ai2 == 0)) then (K [.int .i64 (IntKind.i64.wrap (Int.tdiv ai1 ai2)), .int .i64 0]) else none)))
theorem f93_is {R : Type} (G : ORC R) (k : Nat) (K : List V → Option R) (ai1 ai2 : Int) :
    callF (TAB.env 93) G (L93 G k) Try.f93 S93 [.int .i64 ai1, .int .i64 ai2] K = f93 G k ai1 ai2 K := by kernel_rfl
theorem lo93 : loopsOf (bodyOf Try.f93) = [] := by kernel_rfl
theorem la93 {R : Type} (G : ORC R) (k : Nat) : LoopsAre (TAB.env 93) G (L93 G k) (bodyOf Try.f93) :=
  loopsAre_of (by rw [lo93]; intro p hp; cases hp)
def g93 {R : Type} (G : ORC R) (k : Nat) (args : List V) (K : List V → Option R) : Option R := match args with
  | [.int .i64 ai1, .int .i64 ai2] => f93 G k ai1 ai2 K
  | _ => none
theorem s93 {R : Type} {G : ORC R} {k : Nat} (hG : Sound Try.prog TAB G) (args : List V) (K : List V → Option R) (r : R) (h : g93 G k args K = some r) : ∃ o, CallOK Try.prog TAB.env 93 args o ∧ K o = some r := by
  unfold g93 at h
  split at h
  · rw [← f93_is] at h
    exact callF_sound (f := 93) TAB_chk MO hG Try.func93 (sg := S93) (by kernel_rfl) (by kernel_rfl) (la93 G k) h
  · cases h
def L94 {R : Type} (_ : ORC R) (_ : Nat) : Nat → St → (Ex → St → Option R) → Option R := fun _ _ _ => none
def f94 {R : Type} (G : ORC R) (k : Nat) (ai1 ai2 : Int) (K : List V → Option R) : Option R :=
  (bif (ai2 == 0) then (K [.int .i64 0, .int .i64 3]) else (bif (ai2 == (-1)) then (K [.int .i64 0, .int .i64 0]) else (bif (!(ai2 == 0)) then (K [.int .i64 (Int.tmod ai1 ai2), .int .i64 0]) else none)))
theorem f94_is {R : Type} (G : ORC R) (k : Nat) (K : List V → Option R) (ai1 ai2 : Int) :
    callF (TAB.env 94) G (L94 G k) Try.f94 S94 [.int .i64 ai1, .int .i64 ai2] K = f94 G k ai1 ai2 K := by kernel_rfl
theorem lo94 : loopsOf (bodyOf Try.f94) = [] := by kernel_rfl
theorem la94 {R : Type} (G : ORC R) (k : Nat) : LoopsAre (TAB.env 94) G (L94 G k) (bodyOf Try.f94) :=
  loopsAre_of (by rw [lo94]; intro p hp; cases hp)
def g94 {R : Type} (G : ORC R) (k : Nat) (args : List V) (K : List V → Option R) : Option R := match args with
  | [.int .i64 ai1, .int .i64 ai2] => f94 G k ai1 ai2 K
  | _ => none
theorem s94 {R : Type} {G : ORC R} {k : Nat} (hG : Sound Try.prog TAB G) (args : List V) (K : List V → Option R) (r : R) (h : g94 G k args K = some r) : ∃ o, CallOK Try.prog TAB.env 94 args o ∧ K o = some r := by
  unfold g94 at h
  split at h
  · rw [← f94_is] at h
    exact callF_sound (f := 94) TAB_chk MO hG Try.func94 (sg := S94) (by kernel_rfl) (by kernel_rfl) (la94 G k) h
  · cases h
def L71 {R : Type} (_ : ORC R) (_ : Nat) : Nat → St → (Ex → St → Option R) → Option R := fun _ _ _ => none
def f71 {R : Type} (G : ORC R) (k : Nat) (ai1 : Int) (K : List V → Option R) : Option R :=
  (G 90 [.int .i64 0, .int .i64 ai1] fun o2 => uI .i64 o2 fun n4 r3 => uI .i64 r3 fun n6 r5 => unNil r5 (K [.int .i64 n4, .int .i64 n6]))
theorem f71_is {R : Type} (G : ORC R) (k : Nat) (K : List V → Option R) (ai1 : Int) :
    callF (TAB.env 71) G (L71 G k) Try.f71 S71 [.int .i64 ai1] K = f71 G k ai1 K := by kernel_rfl
theorem lo71 : loopsOf (bodyOf Try.f71) = [] := by kernel_rfl
theorem la71 {R : Type} (G : ORC R) (k : Nat) : LoopsAre (TAB.env 71) G (L71 G k) (bodyOf Try.f71) :=
  loopsAre_of (by rw [lo71]; intro p hp; cases hp)
def g71 {R : Type} (G : ORC R) (k : Nat) (args : List V) (K : List V → Option R) : Option R := match args with
  | [.int .i64 ai1] => f71 G k ai1 K
  | _ => none
theorem s71 {R : Type} {G : ORC R} {k : Nat} (hG : Sound Try.prog TAB G) (args : List V) (K : List V → Option R) (r : R) (h : g71 G k args K = some r) : ∃ o, CallOK Try.prog TAB.env 71 args o ∧ K o = some r := by
  unfold g71 at h
  split at h
  · rw [← f71_is] at h
    exact callF_sound (f := 71) TAB_chk MO hG Try.func71 (sg := S71) (by kernel_rfl) (by kernel_rfl) (la71 G k) h
  · cases h
def P62_0h : Pat := { tmps := unds [.var (.sl 7) .ro, .var .str .pr, .undef, .undef, .undef, .var (.int .i64) .pr] 14 [], boxes := nons [] 20 [] }
def P62_0x : Pat := { tmps := unds [] 20 [], boxes := nons [] 20 [] }
def P62_0r : Pat := { tmps := unds [.undef, .undef, .undef, .undef, .var (.int .i64) .pr] 15 [], boxes := nons [] 20 [] }
def b62_0 {R : Type} (G : ORC R) (k : Nat) (X : List V → ByteArray → Int → Option R) (Ko : Unit → Option R) (Kr : Int → Option R) (xl3 : List V) (xs4 : ByteArray) (xi5 : Int) : Option R :=
  (bif (decide (xi5 < (xl3.length : Int))) then (bif ((decide (0 ≤ xi5)) && (decide (xi5 < (xl3.length : Int)))) then (nthK xl3 (Int.toNat xi5) fun e6 => ca7 e6 fun c7 c8 c9 c10 c11 c12 c13 => V.asStr c13 fun s14 => bif (ByteArray.toList s14 == ByteArray.toList xs4) then (Kr xi5) else (X xl3 xs4 (IntKind.i64.wrap (xi5 + 1)))) else none) else (Ko ()))
def l62_0g {R : Type} (G : ORC R) (k : Nat) (Ko : Unit → Option R) (Kr : Int → Option R) : Nat → List V → ByteArray → Int → Option R
  | 0 => fun _ _ _ => none
  | j + 1 => b62_0 G k (l62_0g G k Ko Kr j) Ko Kr
def l62_0 {R : Type} (G : ORC R) (k : Nat) (xl3 : List V) (xs4 : ByteArray) (xi5 : Int) (Ko : Unit → Option R) (Kr : Int → Option R) : Option R := l62_0g G k Ko Kr k xl3 xs4 xi5
def rd62_0 {R : Type} (G : ORC R) (k : Nat) (K : Ex → St → Option R) (j : Nat) (vs : List V) : Option R := match vs with
  | [.sl 7 xl3, .str xs4, .int .i64 xi5] => l62_0g G k (fun _ => K .normal (P62_0x.inst [])) (fun yi16 => K .ret (P62_0r.inst [.int .i64 yi16])) j xl3 xs4 xi5
  | _ => none
def L62 {R : Type} (G : ORC R) (k : Nat) : Nat → St → (Ex → St → Option R) → Option R
  | 0, S, K => P62_0h.mat S fun vs => rd62_0 G k K k vs
  | _, _, _ => none
def f62 {R : Type} (G : ORC R) (k : Nat) (al1 : List V) (as2 : ByteArray) (K : List V → Option R) : Option R :=
  (l62_0 G k al1 as2 1 (fun (_ : Unit) => K [.int .i64 (-1)]) (fun yi15 => K [.int .i64 yi15]))
noncomputable def D62_0 : LoopD := { id := 0, body := loopAt 0 (bodyOf Try.f62), head := P62_0h, out := P62_0x, ret := P62_0r }
theorem l62_0_is {R : Type} (G : ORC R) (k : Nat) (X : List V → Option R) (K : Ex → St → Option R) (xl3 : List V) (xs4 : ByteArray) (xi5 : Int) :
    roundOf (TAB.env 62) G (L62 G k) D62_0 X K [.sl 7 xl3, .str xs4, .int .i64 xi5] = b62_0 G k (fun xl3 xs4 xi5 => X [.sl 7 xl3, .str xs4, .int .i64 xi5]) (fun _ => K .normal (P62_0x.inst [])) (fun yi16 => K .ret (P62_0r.inst [.int .i64 yi16])) xl3 xs4 xi5 := by kernel_rfl
theorem f62_is {R : Type} (G : ORC R) (k : Nat) (K : List V → Option R) (al1 : List V) (as2 : ByteArray) :
    callF (TAB.env 62) G (L62 G k) Try.f62 S62 [.sl 7 al1, .str as2] K = f62 G k al1 as2 K := by kernel_rfl
theorem li62_0 {R : Type} (G : ORC R) (k : Nat) : LoopIs (TAB.env 62) G (L62 G k) 0 (loopAt 0 (bodyOf Try.f62)) :=
  ⟨D62_0, fun j vs K => rd62_0 G k K j vs, k, rfl, rfl, by kernel_rfl, by kernel_rfl, by kernel_rfl, (fun vs K => by unfold rd62_0; dsimp only; split <;> rfl),
    (fun j vs K r h => by
      unfold rd62_0 at h
      dsimp only at h
      split at h
      · rw [l62_0_is]; exact h
      · cases h), (fun S K r h => h)⟩
theorem lo62 : loopsOf (bodyOf Try.f62) = [(0, loopAt 0 (bodyOf Try.f62))] := by kernel_rfl
theorem la62 {R : Type} (G : ORC R) (k : Nat) : LoopsAre (TAB.env 62) G (L62 G k) (bodyOf Try.f62) :=
  loopsAre_of (by rw [lo62]; intro p hp; simp only [List.mem_cons, List.not_mem_nil, or_false] at hp; subst hp; exact li62_0 G k)
def g62 {R : Type} (G : ORC R) (k : Nat) (args : List V) (K : List V → Option R) : Option R := match args with
  | [.sl 7 al1, .str as2] => f62 G k al1 as2 K
  | _ => none
theorem s62 {R : Type} {G : ORC R} {k : Nat} (hG : Sound Try.prog TAB G) (args : List V) (K : List V → Option R) (r : R) (h : g62 G k args K = some r) : ∃ o, CallOK Try.prog TAB.env 62 args o ∧ K o = some r := by
  unfold g62 at h
  split at h
  · rw [← f62_is] at h
    exact callF_sound (f := 62) TAB_chk MO hG Try.func62 (sg := S62) (by kernel_rfl) (by kernel_rfl) (la62 G k) h
  · cases h
def P61_0h : Pat := { tmps := unds [.var (.sl 1) .ro, .var .str .pr, .undef, .undef, .undef, .var (.int .i64) .pr] 13 [], boxes := nons [] 19 [] }
def P61_0x : Pat := { tmps := unds [] 19 [], boxes := nons [] 19 [] }
def P61_0r : Pat := { tmps := unds [.undef, .undef, .undef, .undef, .var (.int .i64) .pr] 14 [], boxes := nons [] 19 [] }
def b61_0 {R : Type} (G : ORC R) (k : Nat) (X : List V → ByteArray → Int → Option R) (Ko : Unit → Option R) (Kr : Int → Option R) (xl3 : List V) (xs4 : ByteArray) (xi5 : Int) : Option R :=
  (bif (decide (xi5 < (xl3.length : Int))) then (bif ((decide (0 ≤ xi5)) && (decide (xi5 < (xl3.length : Int)))) then (nthK xl3 (Int.toNat xi5) fun e6 => V.asStr e6 fun s7 => bif (ByteArray.toList s7 == ByteArray.toList xs4) then (Kr xi5) else (X xl3 xs4 (IntKind.i64.wrap (xi5 + 1)))) else none) else (Ko ()))
def l61_0g {R : Type} (G : ORC R) (k : Nat) (Ko : Unit → Option R) (Kr : Int → Option R) : Nat → List V → ByteArray → Int → Option R
  | 0 => fun _ _ _ => none
  | j + 1 => b61_0 G k (l61_0g G k Ko Kr j) Ko Kr
def l61_0 {R : Type} (G : ORC R) (k : Nat) (xl3 : List V) (xs4 : ByteArray) (xi5 : Int) (Ko : Unit → Option R) (Kr : Int → Option R) : Option R := l61_0g G k Ko Kr k xl3 xs4 xi5
def rd61_0 {R : Type} (G : ORC R) (k : Nat) (K : Ex → St → Option R) (j : Nat) (vs : List V) : Option R := match vs with
  | [.sl 1 xl3, .str xs4, .int .i64 xi5] => l61_0g G k (fun _ => K .normal (P61_0x.inst [])) (fun yi9 => K .ret (P61_0r.inst [.int .i64 yi9])) j xl3 xs4 xi5
  | _ => none
def L61 {R : Type} (G : ORC R) (k : Nat) : Nat → St → (Ex → St → Option R) → Option R
  | 0, S, K => P61_0h.mat S fun vs => rd61_0 G k K k vs
  | _, _, _ => none
def f61 {R : Type} (G : ORC R) (k : Nat) (al1 : List V) (as2 : ByteArray) (K : List V → Option R) : Option R :=
  (l61_0 G k al1 as2 0 (fun (_ : Unit) => K [.int .i64 (-1)]) (fun yi8 => K [.int .i64 yi8]))
noncomputable def D61_0 : LoopD := { id := 0, body := loopAt 0 (bodyOf Try.f61), head := P61_0h, out := P61_0x, ret := P61_0r }
theorem l61_0_is {R : Type} (G : ORC R) (k : Nat) (X : List V → Option R) (K : Ex → St → Option R) (xl3 : List V) (xs4 : ByteArray) (xi5 : Int) :
    roundOf (TAB.env 61) G (L61 G k) D61_0 X K [.sl 1 xl3, .str xs4, .int .i64 xi5] = b61_0 G k (fun xl3 xs4 xi5 => X [.sl 1 xl3, .str xs4, .int .i64 xi5]) (fun _ => K .normal (P61_0x.inst [])) (fun yi9 => K .ret (P61_0r.inst [.int .i64 yi9])) xl3 xs4 xi5 := by kernel_rfl
theorem f61_is {R : Type} (G : ORC R) (k : Nat) (K : List V → Option R) (al1 : List V) (as2 : ByteArray) :
    callF (TAB.env 61) G (L61 G k) Try.f61 S61 [.sl 1 al1, .str as2] K = f61 G k al1 as2 K := by kernel_rfl
theorem li61_0 {R : Type} (G : ORC R) (k : Nat) : LoopIs (TAB.env 61) G (L61 G k) 0 (loopAt 0 (bodyOf Try.f61)) :=
  ⟨D61_0, fun j vs K => rd61_0 G k K j vs, k, rfl, rfl, by kernel_rfl, by kernel_rfl, by kernel_rfl, (fun vs K => by unfold rd61_0; dsimp only; split <;> rfl),
    (fun j vs K r h => by
      unfold rd61_0 at h
      dsimp only at h
      split at h
      · rw [l61_0_is]; exact h
      · cases h), (fun S K r h => h)⟩
theorem lo61 : loopsOf (bodyOf Try.f61) = [(0, loopAt 0 (bodyOf Try.f61))] := by kernel_rfl
theorem la61 {R : Type} (G : ORC R) (k : Nat) : LoopsAre (TAB.env 61) G (L61 G k) (bodyOf Try.f61) :=
  loopsAre_of (by rw [lo61]; intro p hp; simp only [List.mem_cons, List.not_mem_nil, or_false] at hp; subst hp; exact li61_0 G k)
def g61 {R : Type} (G : ORC R) (k : Nat) (args : List V) (K : List V → Option R) : Option R := match args with
  | [.sl 1 al1, .str as2] => f61 G k al1 as2 K
  | _ => none
theorem s61 {R : Type} {G : ORC R} {k : Nat} (hG : Sound Try.prog TAB G) (args : List V) (K : List V → Option R) (r : R) (h : g61 G k args K = some r) : ∃ o, CallOK Try.prog TAB.env 61 args o ∧ K o = some r := by
  unfold g61 at h
  split at h
  · rw [← f61_is] at h
    exact callF_sound (f := 61) TAB_chk MO hG Try.func61 (sg := S61) (by kernel_rfl) (by kernel_rfl) (la61 G k) h
  · cases h
def L63 {R : Type} (_ : ORC R) (_ : Nat) : Nat → St → (Ex → St → Option R) → Option R := fun _ _ _ => none
def f63 {R : Type} (G : ORC R) (k : Nat) (ai1 : Int) (K : List V → Option R) : Option R :=
  (bif (ai1 == 5) then (K [.int .i64 5]) else (bif (ai1 == 6) then (K [.int .i64 6]) else (K [.int .i64 (IntKind.i64.wrap ((IntKind.i64.wrap (7 + ai1)) - 7))])))
theorem f63_is {R : Type} (G : ORC R) (k : Nat) (K : List V → Option R) (ai1 : Int) :
    callF (TAB.env 63) G (L63 G k) Try.f63 S63 [.int .i64 ai1] K = f63 G k ai1 K := by kernel_rfl
theorem lo63 : loopsOf (bodyOf Try.f63) = [] := by kernel_rfl
theorem la63 {R : Type} (G : ORC R) (k : Nat) : LoopsAre (TAB.env 63) G (L63 G k) (bodyOf Try.f63) :=
  loopsAre_of (by rw [lo63]; intro p hp; cases hp)
def g63 {R : Type} (G : ORC R) (k : Nat) (args : List V) (K : List V → Option R) : Option R := match args with
  | [.int .i64 ai1] => f63 G k ai1 K
  | _ => none
theorem s63 {R : Type} {G : ORC R} {k : Nat} (hG : Sound Try.prog TAB G) (args : List V) (K : List V → Option R) (r : R) (h : g63 G k args K = some r) : ∃ o, CallOK Try.prog TAB.env 63 args o ∧ K o = some r := by
  unfold g63 at h
  split at h
  · rw [← f63_is] at h
    exact callF_sound (f := 63) TAB_chk MO hG Try.func63 (sg := S63) (by kernel_rfl) (by kernel_rfl) (la63 G k) h
  · cases h
def L42 {R : Type} (_ : ORC R) (_ : Nat) : Nat → St → (Ex → St → Option R) → Option R := fun _ _ _ => none
def f42 {R : Type} (G : ORC R) (k : Nat) (al1 : List V) (ai2 ai3 : Int) (as4 : ByteArray) (al5 : List V) (ai6 : Int) (al7 al8 : List V) (al9 al10 : List V) (K : List V → Option R) : Option R :=
  (bif (ai2 == 1) then (bif (decide (List.length al1 + 1 ≤ 1073741824)) then (K [.sl 4 (al1 ++ [.agg [.int .i64 1, .int .i64 0, .int .i64 ai3, .str ⟨#[]⟩]])]) else none) else (bif (ai2 == 2) then (G 61 [.sl 1 al7, .str as4] fun o11 => uI .i64 o11 fun n13 r12 => unNil r12 (bif (decide (List.length al1 + 1 ≤ 1073741824)) then (K [.sl 4 (al1 ++ [.agg [.int .i64 2, .int .i64 n13, .int .i64 0, .str ⟨#[]⟩]])]) else none)) else (bif (ai2 == 3) then (bif (decide (List.length al1 + 1 ≤ 1073741824)) then (K [.sl 4 (al1 ++ [.agg [.int .i64 3, .int .i64 0, .int .i64 0, .str ⟨#[]⟩]])]) else none) else (bif (ai2 == 4) then (G 62 [.sl 7 al10, .str as4] fun o14 => uI .i64 o14 fun n16 r15 => unNil r15 (bif (decide (List.length al1 + 1 ≤ 1073741824)) then (K [.sl 4 (al1 ++ [.agg [.int .i64 4, .int .i64 n16, .int .i64 0, .str ⟨#[]⟩]])]) else none)) else (bif (ai2 == 5) then (bif (ai2 == 5) then (bif (decide (0 < (al5.length : Int))) then (nthK al5 0 fun e17 => V.asAgg e17 fun l18 => G 42 [.sl 4 al1, .agg l18, .agg [.sl 1 al7, .sl 1 al8, .sl 1 al9, .sl 7 al10]] fun o19 => uL 4 o19 fun l21 r20 => unNil r20 (G 63 [.int .i64 ai2] fun o22 => uI .i64 o22 fun n24 r23 => unNil r23 (bif (decide (List.length l21 + 1 ≤ 1073741824)) then (K [.sl 4 (l21 ++ [.agg [.int .i64 n24, .int .i64 0, .int .i64 0, .str ⟨#[]⟩]])]) else none))) else none) else (bif (ai2 == 18) then (G 64 [.sl 4 al1, .agg [.int .i64 ai2, .int .i64 ai3, .str as4, .sl 5 al5, .int .i64 ai6], .agg [.sl 1 al7, .sl 1 al8, .sl 1 al9, .sl 7 al10]] fun o25 => uL 4 o25 fun l27 r26 => unNil r26 (K [.sl 4 l27])) else (bif (ai2 == 19) then (G 65 [.sl 4 al1, .agg [.int .i64 ai2, .int .i64 ai3, .str as4, .sl 5 al5, .int .i64 ai6], .agg [.sl 1 al7, .sl 1 al8, .sl 1 al9, .sl 7 al10]] fun o28 => uL 4 o28 fun l30 r29 => unNil r29 (K [.sl 4 l30])) else (bif (decide (0 < (al5.length : Int))) then (nthK al5 0 fun e31 => V.asAgg e31 fun l32 => G 42 [.sl 4 al1, .agg l32, .agg [.sl 1 al7, .sl 1 al8, .sl 1 al9, .sl 7 al10]] fun o33 => uL 4 o33 fun l35 r34 => unNil r34 (bif (decide (1 < (al5.length : Int))) then (nthK al5 1 fun e36 => V.asAgg e36 fun l37 => G 42 [.sl 4 l35, .agg l37, .agg [.sl 1 al7, .sl 1 al8, .sl 1 al9, .sl 7 al10]] fun o38 => uL 4 o38 fun l40 r39 => unNil r39 (G 63 [.int .i64 ai2] fun o41 => uI .i64 o41 fun n43 r42 => unNil r42 (bif (decide (List.length l40 + 1 ≤ 1073741824)) then (K [.sl 4 (l40 ++ [.agg [.int .i64 n43, .int .i64 0, .int .i64 0, .str ⟨#[]⟩]])]) else none))) else none)) else none)))) else (bif (ai2 == 6) then (bif (decide (0 < (al5.length : Int))) then (nthK al5 0 fun e44 => V.asAgg e44 fun l45 => G 42 [.sl 4 al1, .agg l45, .agg [.sl 1 al7, .sl 1 al8, .sl 1 al9, .sl 7 al10]] fun o46 => uL 4 o46 fun l48 r47 => unNil r47 (G 63 [.int .i64 ai2] fun o49 => uI .i64 o49 fun n51 r50 => unNil r50 (bif (decide (List.length l48 + 1 ≤ 1073741824)) then (K [.sl 4 (l48 ++ [.agg [.int .i64 n51, .int .i64 0, .int .i64 0, .str ⟨#[]⟩]])]) else none))) else none) else (bif (ai2 == 18) then (G 64 [.sl 4 al1, .agg [.int .i64 ai2, .int .i64 ai3, .str as4, .sl 5 al5, .int .i64 ai6], .agg [.sl 1 al7, .sl 1 al8, .sl 1 al9, .sl 7 al10]] fun o52 => uL 4 o52 fun l54 r53 => unNil r53 (K [.sl 4 l54])) else (bif (ai2 == 19) then (G 65 [.sl 4 al1, .agg [.int .i64 ai2, .int .i64 ai3, .str as4, .sl 5 al5, .int .i64 ai6], .agg [.sl 1 al7, .sl 1 al8, .sl 1 al9, .sl 7 al10]] fun o55 => uL 4 o55 fun l57 r56 => unNil r56 (K [.sl 4 l57])) else (bif (decide (0 < (al5.length : Int))) then (nthK al5 0 fun e58 => V.asAgg e58 fun l59 => G 42 [.sl 4 al1, .agg l59, .agg [.sl 1 al7, .sl 1 al8, .sl 1 al9, .sl 7 al10]] fun o60 => uL 4 o60 fun l62 r61 => unNil r61 (bif (decide (1 < (al5.length : Int))) then (nthK al5 1 fun e63 => V.asAgg e63 fun l64 => G 42 [.sl 4 l62, .agg l64, .agg [.sl 1 al7, .sl 1 al8, .sl 1 al9, .sl 7 al10]] fun o65 => uL 4 o65 fun l67 r66 => unNil r66 (G 63 [.int .i64 ai2] fun o68 => uI .i64 o68 fun n70 r69 => unNil r69 (bif (decide (List.length l67 + 1 ≤ 1073741824)) then (K [.sl 4 (l67 ++ [.agg [.int .i64 n70, .int .i64 0, .int .i64 0, .str ⟨#[]⟩]])]) else none))) else none)) else none)))))))))
theorem f42_is {R : Type} (G : ORC R) (k : Nat) (K : List V → Option R) (al1 : List V) (ai2 ai3 : Int) (as4 : ByteArray) (al5 : List V) (ai6 : Int) (al7 al8 : List V) (al9 al10 : List V) :
    callF (TAB.env 42) G (L42 G k) Try.f42 S42 [.sl 4 al1, .agg [.int .i64 ai2, .int .i64 ai3, .str as4, .sl 5 al5, .int .i64 ai6], .agg [.sl 1 al7, .sl 1 al8, .sl 1 al9, .sl 7 al10]] K = f42 G k al1 ai2 ai3 as4 al5 ai6 al7 al8 al9 al10 K := by kernel_rfl
theorem lo42 : loopsOf (bodyOf Try.f42) = [] := by kernel_rfl
theorem la42 {R : Type} (G : ORC R) (k : Nat) : LoopsAre (TAB.env 42) G (L42 G k) (bodyOf Try.f42) :=
  loopsAre_of (by rw [lo42]; intro p hp; cases hp)
def g42 {R : Type} (G : ORC R) (k : Nat) (args : List V) (K : List V → Option R) : Option R := match args with
  | [.sl 4 al1, .agg [.int .i64 ai2, .int .i64 ai3, .str as4, .sl 5 al5, .int .i64 ai6], .agg [.sl 1 al7, .sl 1 al8, .sl 1 al9, .sl 7 al10]] => f42 G k al1 ai2 ai3 as4 al5 ai6 al7 al8 al9 al10 K
  | _ => none
theorem s42 {R : Type} {G : ORC R} {k : Nat} (hG : Sound Try.prog TAB G) (args : List V) (K : List V → Option R) (r : R) (h : g42 G k args K = some r) : ∃ o, CallOK Try.prog TAB.env 42 args o ∧ K o = some r := by
  unfold g42 at h
  split at h
  · rw [← f42_is] at h
    exact callF_sound (f := 42) TAB_chk MO hG Try.func42 (sg := S42) (by kernel_rfl) (by kernel_rfl) (la42 G k) h
  · cases h
def L64 {R : Type} (_ : ORC R) (_ : Nat) : Nat → St → (Ex → St → Option R) → Option R := fun _ _ _ => none
def f64 {R : Type} (G : ORC R) (k : Nat) (al1 : List V) (ai2 ai3 : Int) (as4 : ByteArray) (al5 : List V) (ai6 : Int) (al7 al8 : List V) (al9 al10 : List V) (K : List V → Option R) : Option R :=
  (bif (decide (0 < (al5.length : Int))) then (nthK al5 0 fun e11 => V.asAgg e11 fun l12 => G 42 [.sl 4 al1, .agg l12, .agg [.sl 1 al7, .sl 1 al8, .sl 1 al9, .sl 7 al10]] fun o13 => uL 4 o13 fun l15 r14 => unNil r14 (bif (decide (List.length l15 + 1 ≤ 1073741824)) then (bif (decide (1 < (al5.length : Int))) then (nthK al5 1 fun e16 => V.asAgg e16 fun l17 => G 42 [.sl 4 (l15 ++ [.agg [.int .i64 24, .int .i64 0, .int .i64 0, .str ⟨#[]⟩]]), .agg l17, .agg [.sl 1 al7, .sl 1 al8, .sl 1 al9, .sl 7 al10]] fun o18 => uL 4 o18 fun l20 r19 => unNil r19 (bif (decide (List.length l20 + 3 ≤ 1073741824)) then (bif ((decide (0 ≤ (l15.length : Int))) && (decide ((l15.length : Int) < ((List.length (l20 ++ [.agg [.int .i64 24, .int .i64 0, .int .i64 0, .str ⟨#[]⟩], .agg [.int .i64 1, .int .i64 0, .int .i64 1, .str ⟨#[]⟩], .agg [.int .i64 23, .int .i64 0, .int .i64 0, .str ⟨#[]⟩]]) : Nat) : Int)))) then (nthK (l20 ++ [.agg [.int .i64 24, .int .i64 0, .int .i64 0, .str ⟨#[]⟩], .agg [.int .i64 1, .int .i64 0, .int .i64 1, .str ⟨#[]⟩], .agg [.int .i64 23, .int .i64 0, .int .i64 0, .str ⟨#[]⟩]]) (Int.toNat (l15.length : Int)) fun e21 => ca4 e21 fun c22 c23 c24 c25 => bif ((decide (0 ≤ (l20.length : Int))) && (decide ((l20.length : Int) < ((List.length (List.set (l20 ++ [.agg [.int .i64 24, .int .i64 0, .int .i64 0, .str ⟨#[]⟩], .agg [.int .i64 1, .int .i64 0, .int .i64 1, .str ⟨#[]⟩], .agg [.int .i64 23, .int .i64 0, .int .i64 0, .str ⟨#[]⟩]]) (Int.toNat (l15.length : Int)) (.agg [c22, .int .i64 ((List.length (l20 ++ [.agg [.int .i64 24, .int .i64 0, .int .i64 0, .str ⟨#[]⟩], .agg [.int .i64 1, .int .i64 0, .int .i64 1, .str ⟨#[]⟩], .agg [.int .i64 23, .int .i64 0, .int .i64 0, .str ⟨#[]⟩]]) : Nat) : Int), c24, c25])) : Nat) : Int)))) then (nthK (List.set (l20 ++ [.agg [.int .i64 24, .int .i64 0, .int .i64 0, .str ⟨#[]⟩], .agg [.int .i64 1, .int .i64 0, .int .i64 1, .str ⟨#[]⟩], .agg [.int .i64 23, .int .i64 0, .int .i64 0, .str ⟨#[]⟩]]) (Int.toNat (l15.length : Int)) (.agg [c22, .int .i64 ((List.length (l20 ++ [.agg [.int .i64 24, .int .i64 0, .int .i64 0, .str ⟨#[]⟩], .agg [.int .i64 1, .int .i64 0, .int .i64 1, .str ⟨#[]⟩], .agg [.int .i64 23, .int .i64 0, .int .i64 0, .str ⟨#[]⟩]]) : Nat) : Int), c24, c25])) (Int.toNat (l20.length : Int)) fun e26 => ca4 e26 fun c27 c28 c29 c30 => bif (decide (List.length (List.set (List.set (l20 ++ [.agg [.int .i64 24, .int .i64 0, .int .i64 0, .str ⟨#[]⟩], .agg [.int .i64 1, .int .i64 0, .int .i64 1, .str ⟨#[]⟩], .agg [.int .i64 23, .int .i64 0, .int .i64 0, .str ⟨#[]⟩]]) (Int.toNat (l15.length : Int)) (.agg [c22, .int .i64 ((List.length (l20 ++ [.agg [.int .i64 24, .int .i64 0, .int .i64 0, .str ⟨#[]⟩], .agg [.int .i64 1, .int .i64 0, .int .i64 1, .str ⟨#[]⟩], .agg [.int .i64 23, .int .i64 0, .int .i64 0, .str ⟨#[]⟩]]) : Nat) : Int), c24, c25])) (Int.toNat (l20.length : Int)) (.agg [c27, .int .i64 ((List.length (l20 ++ [.agg [.int .i64 24, .int .i64 0, .int .i64 0, .str ⟨#[]⟩], .agg [.int .i64 1, .int .i64 0, .int .i64 1, .str ⟨#[]⟩], .agg [.int .i64 23, .int .i64 0, .int .i64 0, .str ⟨#[]⟩]]) : Nat) : Int), c29, c30])) + 1 ≤ 1073741824)) then (bif ((decide (0 ≤ (IntKind.i64.wrap ((l20.length : Int) + 2)))) && (decide ((IntKind.i64.wrap ((l20.length : Int) + 2)) < ((List.length ((List.set (List.set (l20 ++ [.agg [.int .i64 24, .int .i64 0, .int .i64 0, .str ⟨#[]⟩], .agg [.int .i64 1, .int .i64 0, .int .i64 1, .str ⟨#[]⟩], .agg [.int .i64 23, .int .i64 0, .int .i64 0, .str ⟨#[]⟩]]) (Int.toNat (l15.length : Int)) (.agg [c22, .int .i64 ((List.length (l20 ++ [.agg [.int .i64 24, .int .i64 0, .int .i64 0, .str ⟨#[]⟩], .agg [.int .i64 1, .int .i64 0, .int .i64 1, .str ⟨#[]⟩], .agg [.int .i64 23, .int .i64 0, .int .i64 0, .str ⟨#[]⟩]]) : Nat) : Int), c24, c25])) (Int.toNat (l20.length : Int)) (.agg [c27, .int .i64 ((List.length (l20 ++ [.agg [.int .i64 24, .int .i64 0, .int .i64 0, .str ⟨#[]⟩], .agg [.int .i64 1, .int .i64 0, .int .i64 1, .str ⟨#[]⟩], .agg [.int .i64 23, .int .i64 0, .int .i64 0, .str ⟨#[]⟩]]) : Nat) : Int), c29, c30])) ++ [.agg [.int .i64 1, .int .i64 0, .int .i64 0, .str ⟨#[]⟩]]) : Nat) : Int)))) then (nthK ((List.set (List.set (l20 ++ [.agg [.int .i64 24, .int .i64 0, .int .i64 0, .str ⟨#[]⟩], .agg [.int .i64 1, .int .i64 0, .int .i64 1, .str ⟨#[]⟩], .agg [.int .i64 23, .int .i64 0, .int .i64 0, .str ⟨#[]⟩]]) (Int.toNat (l15.length : Int)) (.agg [c22, .int .i64 ((List.length (l20 ++ [.agg [.int .i64 24, .int .i64 0, .int .i64 0, .str ⟨#[]⟩], .agg [.int .i64 1, .int .i64 0, .int .i64 1, .str ⟨#[]⟩], .agg [.int .i64 23, .int .i64 0, .int .i64 0, .str ⟨#[]⟩]]) : Nat) : Int), c24, c25])) (Int.toNat (l20.length : Int)) (.agg [c27, .int .i64 ((List.length (l20 ++ [.agg [.int .i64 24, .int .i64 0, .int .i64 0, .str ⟨#[]⟩], .agg [.int .i64 1, .int .i64 0, .int .i64 1, .str ⟨#[]⟩], .agg [.int .i64 23, .int .i64 0, .int .i64 0, .str ⟨#[]⟩]]) : Nat) : Int), c29, c30])) ++ [.agg [.int .i64 1, .int .i64 0, .int .i64 0, .str ⟨#[]⟩]]) (Int.toNat (IntKind.i64.wrap ((l20.length : Int) + 2))) fun e31 => ca4 e31 fun c32 c33 c34 c35 => K [.sl 4 (List.set ((List.set (List.set (l20 ++ [.agg [.int .i64 24, .int .i64 0, .int .i64 0, .str ⟨#[]⟩], .agg [.int .i64 1, .int .i64 0, .int .i64 1, .str ⟨#[]⟩], .agg [.int .i64 23, .int .i64 0, .int .i64 0, .str ⟨#[]⟩]]) (Int.toNat (l15.length : Int)) (.agg [c22, .int .i64 ((List.length (l20 ++ [.agg [.int .i64 24, .int .i64 0, .int .i64 0, .str ⟨#[]⟩], .agg [.int .i64 1, .int .i64 0, .int .i64 1, .str ⟨#[]⟩], .agg [.int .i64 23, .int .i64 0, .int .i64 0, .str ⟨#[]⟩]]) : Nat) : Int), c24, c25])) (Int.toNat (l20.length : Int)) (.agg [c27, .int .i64 ((List.length (l20 ++ [.agg [.int .i64 24, .int .i64 0, .int .i64 0, .str ⟨#[]⟩], .agg [.int .i64 1, .int .i64 0, .int .i64 1, .str ⟨#[]⟩], .agg [.int .i64 23, .int .i64 0, .int .i64 0, .str ⟨#[]⟩]]) : Nat) : Int), c29, c30])) ++ [.agg [.int .i64 1, .int .i64 0, .int .i64 0, .str ⟨#[]⟩]]) (Int.toNat (IntKind.i64.wrap ((l20.length : Int) + 2))) (.agg [c32, .int .i64 ((List.length ((List.set (List.set (l20 ++ [.agg [.int .i64 24, .int .i64 0, .int .i64 0, .str ⟨#[]⟩], .agg [.int .i64 1, .int .i64 0, .int .i64 1, .str ⟨#[]⟩], .agg [.int .i64 23, .int .i64 0, .int .i64 0, .str ⟨#[]⟩]]) (Int.toNat (l15.length : Int)) (.agg [c22, .int .i64 ((List.length (l20 ++ [.agg [.int .i64 24, .int .i64 0, .int .i64 0, .str ⟨#[]⟩], .agg [.int .i64 1, .int .i64 0, .int .i64 1, .str ⟨#[]⟩], .agg [.int .i64 23, .int .i64 0, .int .i64 0, .str ⟨#[]⟩]]) : Nat) : Int), c24, c25])) (Int.toNat (l20.length : Int)) (.agg [c27, .int .i64 ((List.length (l20 ++ [.agg [.int .i64 24, .int .i64 0, .int .i64 0, .str ⟨#[]⟩], .agg [.int .i64 1, .int .i64 0, .int .i64 1, .str ⟨#[]⟩], .agg [.int .i64 23, .int .i64 0, .int .i64 0, .str ⟨#[]⟩]]) : Nat) : Int), c29, c30])) ++ [.agg [.int .i64 1, .int .i64 0, .int .i64 0, .str ⟨#[]⟩]]) : Nat) : Int), c34, c35]))]) else none) else none) else none) else none) else none)) else none) else none)) else none)
theorem f64_is {R : Type} (G : ORC R) (k : Nat) (K : List V → Option R) (al1 : List V) (ai2 ai3 : Int) (as4 : ByteArray) (al5 : List V) (ai6 : Int) (al7 al8 : List V) (al9 al10 : List V) :
    callF (TAB.env 64) G (L64 G k) Try.f64 S64 [.sl 4 al1, .agg [.int .i64 ai2, .int .i64 ai3, .str as4, .sl 5 al5, .int .i64 ai6], .agg [.sl 1 al7, .sl 1 al8, .sl 1 al9, .sl 7 al10]] K = f64 G k al1 ai2 ai3 as4 al5 ai6 al7 al8 al9 al10 K := by kernel_rfl
theorem lo64 : loopsOf (bodyOf Try.f64) = [] := by kernel_rfl
theorem la64 {R : Type} (G : ORC R) (k : Nat) : LoopsAre (TAB.env 64) G (L64 G k) (bodyOf Try.f64) :=
  loopsAre_of (by rw [lo64]; intro p hp; cases hp)
def g64 {R : Type} (G : ORC R) (k : Nat) (args : List V) (K : List V → Option R) : Option R := match args with
  | [.sl 4 al1, .agg [.int .i64 ai2, .int .i64 ai3, .str as4, .sl 5 al5, .int .i64 ai6], .agg [.sl 1 al7, .sl 1 al8, .sl 1 al9, .sl 7 al10]] => f64 G k al1 ai2 ai3 as4 al5 ai6 al7 al8 al9 al10 K
  | _ => none
theorem s64 {R : Type} {G : ORC R} {k : Nat} (hG : Sound Try.prog TAB G) (args : List V) (K : List V → Option R) (r : R) (h : g64 G k args K = some r) : ∃ o, CallOK Try.prog TAB.env 64 args o ∧ K o = some r := by
  unfold g64 at h
  split at h
  · rw [← f64_is] at h
    exact callF_sound (f := 64) TAB_chk MO hG Try.func64 (sg := S64) (by kernel_rfl) (by kernel_rfl) (la64 G k) h
  · cases h
def L65 {R : Type} (_ : ORC R) (_ : Nat) : Nat → St → (Ex → St → Option R) → Option R := fun _ _ _ => none
def f65 {R : Type} (G : ORC R) (k : Nat) (al1 : List V) (ai2 ai3 : Int) (as4 : ByteArray) (al5 : List V) (ai6 : Int) (al7 al8 : List V) (al9 al10 : List V) (K : List V → Option R) : Option R :=
  (bif (decide (0 < (al5.length : Int))) then (nthK al5 0 fun e11 => V.asAgg e11 fun l12 => G 42 [.sl 4 al1, .agg l12, .agg [.sl 1 al7, .sl 1 al8, .sl 1 al9, .sl 7 al10]] fun o13 => uL 4 o13 fun l15 r14 => unNil r14 (bif (decide (List.length l15 + 3 ≤ 1073741824)) then (bif ((decide (0 ≤ (l15.length : Int))) && (decide ((l15.length : Int) < ((List.length (l15 ++ [.agg [.int .i64 24, .int .i64 0, .int .i64 0, .str ⟨#[]⟩], .agg [.int .i64 1, .int .i64 0, .int .i64 1, .str ⟨#[]⟩], .agg [.int .i64 23, .int .i64 0, .int .i64 0, .str ⟨#[]⟩]]) : Nat) : Int)))) then (nthK (l15 ++ [.agg [.int .i64 24, .int .i64 0, .int .i64 0, .str ⟨#[]⟩], .agg [.int .i64 1, .int .i64 0, .int .i64 1, .str ⟨#[]⟩], .agg [.int .i64 23, .int .i64 0, .int .i64 0, .str ⟨#[]⟩]]) (Int.toNat (l15.length : Int)) fun e16 => ca4 e16 fun c17 c18 c19 c20 => bif (decide (1 < (al5.length : Int))) then (nthK al5 1 fun e21 => V.asAgg e21 fun l22 => G 42 [.sl 4 (List.set (l15 ++ [.agg [.int .i64 24, .int .i64 0, .int .i64 0, .str ⟨#[]⟩], .agg [.int .i64 1, .int .i64 0, .int .i64 1, .str ⟨#[]⟩], .agg [.int .i64 23, .int .i64 0, .int .i64 0, .str ⟨#[]⟩]]) (Int.toNat (l15.length : Int)) (.agg [c17, .int .i64 ((List.length (l15 ++ [.agg [.int .i64 24, .int .i64 0, .int .i64 0, .str ⟨#[]⟩], .agg [.int .i64 1, .int .i64 0, .int .i64 1, .str ⟨#[]⟩], .agg [.int .i64 23, .int .i64 0, .int .i64 0, .str ⟨#[]⟩]]) : Nat) : Int), c19, c20])), .agg l22, .agg [.sl 1 al7, .sl 1 al8, .sl 1 al9, .sl 7 al10]] fun o23 => uL 4 o23 fun l25 r24 => unNil r24 (bif (decide (List.length l25 + 3 ≤ 1073741824)) then (bif ((decide (0 ≤ (l25.length : Int))) && (decide ((l25.length : Int) < ((List.length (l25 ++ [.agg [.int .i64 24, .int .i64 0, .int .i64 0, .str ⟨#[]⟩], .agg [.int .i64 1, .int .i64 0, .int .i64 1, .str ⟨#[]⟩], .agg [.int .i64 23, .int .i64 0, .int .i64 0, .str ⟨#[]⟩]]) : Nat) : Int)))) then (nthK (l25 ++ [.agg [.int .i64 24, .int .i64 0, .int .i64 0, .str ⟨#[]⟩], .agg [.int .i64 1, .int .i64 0, .int .i64 1, .str ⟨#[]⟩], .agg [.int .i64 23, .int .i64 0, .int .i64 0, .str ⟨#[]⟩]]) (Int.toNat (l25.length : Int)) fun e26 => ca4 e26 fun c27 c28 c29 c30 => bif (decide (List.length (List.set (l25 ++ [.agg [.int .i64 24, .int .i64 0, .int .i64 0, .str ⟨#[]⟩], .agg [.int .i64 1, .int .i64 0, .int .i64 1, .str ⟨#[]⟩], .agg [.int .i64 23, .int .i64 0, .int .i64 0, .str ⟨#[]⟩]]) (Int.toNat (l25.length : Int)) (.agg [c27, .int .i64 ((List.length (l25 ++ [.agg [.int .i64 24, .int .i64 0, .int .i64 0, .str ⟨#[]⟩], .agg [.int .i64 1, .int .i64 0, .int .i64 1, .str ⟨#[]⟩], .agg [.int .i64 23, .int .i64 0, .int .i64 0, .str ⟨#[]⟩]]) : Nat) : Int), c29, c30])) + 1 ≤ 1073741824)) then (bif ((decide (0 ≤ (IntKind.i64.wrap ((l15.length : Int) + 2)))) && (decide ((IntKind.i64.wrap ((l15.length : Int) + 2)) < ((List.length ((List.set (l25 ++ [.agg [.int .i64 24, .int .i64 0, .int .i64 0, .str ⟨#[]⟩], .agg [.int .i64 1, .int .i64 0, .int .i64 1, .str ⟨#[]⟩], .agg [.int .i64 23, .int .i64 0, .int .i64 0, .str ⟨#[]⟩]]) (Int.toNat (l25.length : Int)) (.agg [c27, .int .i64 ((List.length (l25 ++ [.agg [.int .i64 24, .int .i64 0, .int .i64 0, .str ⟨#[]⟩], .agg [.int .i64 1, .int .i64 0, .int .i64 1, .str ⟨#[]⟩], .agg [.int .i64 23, .int .i64 0, .int .i64 0, .str ⟨#[]⟩]]) : Nat) : Int), c29, c30])) ++ [.agg [.int .i64 1, .int .i64 0, .int .i64 0, .str ⟨#[]⟩]]) : Nat) : Int)))) then (nthK ((List.set (l25 ++ [.agg [.int .i64 24, .int .i64 0, .int .i64 0, .str ⟨#[]⟩], .agg [.int .i64 1, .int .i64 0, .int .i64 1, .str ⟨#[]⟩], .agg [.int .i64 23, .int .i64 0, .int .i64 0, .str ⟨#[]⟩]]) (Int.toNat (l25.length : Int)) (.agg [c27, .int .i64 ((List.length (l25 ++ [.agg [.int .i64 24, .int .i64 0, .int .i64 0, .str ⟨#[]⟩], .agg [.int .i64 1, .int .i64 0, .int .i64 1, .str ⟨#[]⟩], .agg [.int .i64 23, .int .i64 0, .int .i64 0, .str ⟨#[]⟩]]) : Nat) : Int), c29, c30])) ++ [.agg [.int .i64 1, .int .i64 0, .int .i64 0, .str ⟨#[]⟩]]) (Int.toNat (IntKind.i64.wrap ((l15.length : Int) + 2))) fun e31 => ca4 e31 fun c32 c33 c34 c35 => bif ((decide (0 ≤ (IntKind.i64.wrap ((l25.length : Int) + 2)))) && (decide ((IntKind.i64.wrap ((l25.length : Int) + 2)) < ((List.length (List.set ((List.set (l25 ++ [.agg [.int .i64 24, .int .i64 0, .int .i64 0, .str ⟨#[]⟩], .agg [.int .i64 1, .int .i64 0, .int .i64 1, .str ⟨#[]⟩], .agg [.int .i64 23, .int .i64 0, .int .i64 0, .str ⟨#[]⟩]]) (Int.toNat (l25.length : Int)) (.agg [c27, .int .i64 ((List.length (l25 ++ [.agg [.int .i64 24, .int .i64 0, .int .i64 0, .str ⟨#[]⟩], .agg [.int .i64 1, .int .i64 0, .int .i64 1, .str ⟨#[]⟩], .agg [.int .i64 23, .int .i64 0, .int .i64 0, .str ⟨#[]⟩]]) : Nat) : Int), c29, c30])) ++ [.agg [.int .i64 1, .int .i64 0, .int .i64 0, .str ⟨#[]⟩]]) (Int.toNat (IntKind.i64.wrap ((l15.length : Int) + 2))) (.agg [c32, .int .i64 ((List.length ((List.set (l25 ++ [.agg [.int .i64 24, .int .i64 0, .int .i64 0, .str ⟨#[]⟩], .agg [.int .i64 1, .int .i64 0, .int .i64 1, .str ⟨#[]⟩], .agg [.int .i64 23, .int .i64 0, .int .i64 0, .str ⟨#[]⟩]]) (Int.toNat (l25.length : Int)) (.agg [c27, .int .i64 ((List.length (l25 ++ [.agg [.int .i64 24, .int .i64 0, .int .i64 0, .str ⟨#[]⟩], .agg [.int .i64 1, .int .i64 0, .int .i64 1, .str ⟨#[]⟩], .agg [.int .i64 23, .int .i64 0, .int .i64 0, .str ⟨#[]⟩]]) : Nat) : Int), c29, c30])) ++ [.agg [.int .i64 1, .int .i64 0, .int .i64 0, .str ⟨#[]⟩]]) : Nat) : Int), c34, c35])) : Nat) : Int)))) then (nthK (List.set ((List.set (l25 ++ [.agg [.int .i64 24, .int .i64 0, .int .i64 0, .str ⟨#[]⟩], .agg [.int .i64 1, .int .i64 0, .int .i64 1, .str ⟨#[]⟩], .agg [.int .i64 23, .int .i64 0, .int .i64 0, .str ⟨#[]⟩]]) (Int.toNat (l25.length : Int)) (.agg [c27, .int .i64 ((List.length (l25 ++ [.agg [.int .i64 24, .int .i64 0, .int .i64 0, .str ⟨#[]⟩], .agg [.int .i64 1, .int .i64 0, .int .i64 1, .str ⟨#[]⟩], .agg [.int .i64 23, .int .i64 0, .int .i64 0, .str ⟨#[]⟩]]) : Nat) : Int), c29, c30])) ++ [.agg [.int .i64 1, .int .i64 0, .int .i64 0, .str ⟨#[]⟩]]) (Int.toNat (IntKind.i64.wrap ((l15.length : Int) + 2))) (.agg [c32, .int .i64 ((List.length ((List.set (l25 ++ [.agg [.int .i64 24, .int .i64 0, .int .i64 0, .str ⟨#[]⟩], .agg [.int .i64 1, .int .i64 0, .int .i64 1, .str ⟨#[]⟩], .agg [.int .i64 23, .int .i64 0, .int .i64 0, .str ⟨#[]⟩]]) (Int.toNat (l25.length : Int)) (.agg [c27, .int .i64 ((List.length (l25 ++ [.agg [.int .i64 24, .int .i64 0, .int .i64 0, .str ⟨#[]⟩], .agg [.int .i64 1, .int .i64 0, .int .i64 1, .str ⟨#[]⟩], .agg [.int .i64 23, .int .i64 0, .int .i64 0, .str ⟨#[]⟩]]) : Nat) : Int), c29, c30])) ++ [.agg [.int .i64 1, .int .i64 0, .int .i64 0, .str ⟨#[]⟩]]) : Nat) : Int), c34, c35])) (Int.toNat (IntKind.i64.wrap ((l25.length : Int) + 2))) fun e36 => ca4 e36 fun c37 c38 c39 c40 => K [.sl 4 (List.set (List.set ((List.set (l25 ++ [.agg [.int .i64 24, .int .i64 0, .int .i64 0, .str ⟨#[]⟩], .agg [.int .i64 1, .int .i64 0, .int .i64 1, .str ⟨#[]⟩], .agg [.int .i64 23, .int .i64 0, .int .i64 0, .str ⟨#[]⟩]]) (Int.toNat (l25.length : Int)) (.agg [c27, .int .i64 ((List.length (l25 ++ [.agg [.int .i64 24, .int .i64 0, .int .i64 0, .str ⟨#[]⟩], .agg [.int .i64 1, .int .i64 0, .int .i64 1, .str ⟨#[]⟩], .agg [.int .i64 23, .int .i64 0, .int .i64 0, .str ⟨#[]⟩]]) : Nat) : Int), c29, c30])) ++ [.agg [.int .i64 1, .int .i64 0, .int .i64 0, .str ⟨#[]⟩]]) (Int.toNat (IntKind.i64.wrap ((l15.length : Int) + 2))) (.agg [c32, .int .i64 ((List.length ((List.set (l25 ++ [.agg [.int .i64 24, .int .i64 0, .int .i64 0, .str ⟨#[]⟩], .agg [.int .i64 1, .int .i64 0, .int .i64 1, .str ⟨#[]⟩], .agg [.int .i64 23, .int .i64 0, .int .i64 0, .str ⟨#[]⟩]]) (Int.toNat (l25.length : Int)) (.agg [c27, .int .i64 ((List.length (l25 ++ [.agg [.int .i64 24, .int .i64 0, .int .i64 0, .str ⟨#[]⟩], .agg [.int .i64 1, .int .i64 0, .int .i64 1, .str ⟨#[]⟩], .agg [.int .i64 23, .int .i64 0, .int .i64 0, .str ⟨#[]⟩]]) : Nat) : Int), c29, c30])) ++ [.agg [.int .i64 1, .int .i64 0, .int .i64 0, .str ⟨#[]⟩]]) : Nat) : Int), c34, c35])) (Int.toNat (IntKind.i64.wrap ((l25.length : Int) + 2))) (.agg [c37, .int .i64 ((List.length ((List.set (l25 ++ [.agg [.int .i64 24, .int .i64 0, .int .i64 0, .str ⟨#[]⟩], .agg [.int .i64 1, .int .i64 0, .int .i64 1, .str ⟨#[]⟩], .agg [.int .i64 23, .int .i64 0, .int .i64 0, .str ⟨#[]⟩]]) (Int.toNat (l25.length : Int)) (.agg [c27, .int .i64 ((List.length (l25 ++ [.agg [.int .i64 24, .int .i64 0, .int .i64 0, .str ⟨#[]⟩], .agg [.int .i64 1, .int .i64 0, .int .i64 1, .str ⟨#[]⟩], .agg [.int .i64 23, .int .i64 0, .int .i64 0, .str ⟨#[]⟩]]) : Nat) : Int), c29, c30])) ++ [.agg [.int .i64 1, .int .i64 0, .int .i64 0, .str ⟨#[]⟩]]) : Nat) : Int), c39, c40]))]) else none) else none) else none) else none) else none)) else none) else none) else none)) else none)
theorem f65_is {R : Type} (G : ORC R) (k : Nat) (K : List V → Option R) (al1 : List V) (ai2 ai3 : Int) (as4 : ByteArray) (al5 : List V) (ai6 : Int) (al7 al8 : List V) (al9 al10 : List V) :
    callF (TAB.env 65) G (L65 G k) Try.f65 S65 [.sl 4 al1, .agg [.int .i64 ai2, .int .i64 ai3, .str as4, .sl 5 al5, .int .i64 ai6], .agg [.sl 1 al7, .sl 1 al8, .sl 1 al9, .sl 7 al10]] K = f65 G k al1 ai2 ai3 as4 al5 ai6 al7 al8 al9 al10 K := by kernel_rfl
theorem lo65 : loopsOf (bodyOf Try.f65) = [] := by kernel_rfl
theorem la65 {R : Type} (G : ORC R) (k : Nat) : LoopsAre (TAB.env 65) G (L65 G k) (bodyOf Try.f65) :=
  loopsAre_of (by rw [lo65]; intro p hp; cases hp)
def g65 {R : Type} (G : ORC R) (k : Nat) (args : List V) (K : List V → Option R) : Option R := match args with
  | [.sl 4 al1, .agg [.int .i64 ai2, .int .i64 ai3, .str as4, .sl 5 al5, .int .i64 ai6], .agg [.sl 1 al7, .sl 1 al8, .sl 1 al9, .sl 7 al10]] => f65 G k al1 ai2 ai3 as4 al5 ai6 al7 al8 al9 al10 K
  | _ => none
theorem s65 {R : Type} {G : ORC R} {k : Nat} (hG : Sound Try.prog TAB G) (args : List V) (K : List V → Option R) (r : R) (h : g65 G k args K = some r) : ∃ o, CallOK Try.prog TAB.env 65 args o ∧ K o = some r := by
  unfold g65 at h
  split at h
  · rw [← f65_is] at h
    exact callF_sound (f := 65) TAB_chk MO hG Try.func65 (sg := S65) (by kernel_rfl) (by kernel_rfl) (la65 G k) h
  · cases h
def L46 {R : Type} (_ : ORC R) (_ : Nat) : Nat → St → (Ex → St → Option R) → Option R := fun _ _ _ => none
def f46 {R : Type} (G : ORC R) (k : Nat) (ai1 ai2 ai3 : Int) (as4 : ByteArray) (bl5 : List V) (bi6 bi7 bi8 : Int) (bl9 bl10 : List V) (bi11 bi12 : Int) (bl13 bl14 bl15 : List V) (bi16 bi17 : Int) (K : List V → Option R) : Option R :=
  (bif (ai1 == 1) then (G 67 [.int .i64 ai3, .sl 4 bl5, .int .u64 bi6, .int .u64 bi7, .int .i64 bi8, .sl 1 bl9, .sl 1 bl10, .int .i64 (IntKind.i64.wrap (bi11 + 1)), .int .i64 bi12, .sl 1 bl13, .sl 2 bl14, .sl 4 bl15, .int .i64 bi16, .int .i64 bi17] fun o18 => uI .u64 o18 fun n20 r19 => uI .u64 r19 fun n22 r21 => uI .i64 r21 fun n24 r23 => uL 1 r23 fun l26 r25 => uL 1 r25 fun l28 r27 => uI .i64 r27 fun n30 r29 => uI .i64 r29 fun n32 r31 => uL 1 r31 fun l34 r33 => uL 2 r33 fun l36 r35 => uL 4 r35 fun l38 r37 => uI .i64 r37 fun n40 r39 => uI .i64 r39 fun n42 r41 => unNil r41 (K [.bool false, .int .i64 0, .int .u64 n20, .int .u64 n22, .int .i64 n24, .sl 1 l26, .sl 1 l28, .int .i64 n30, .int .i64 n32, .sl 1 l34, .sl 2 l36, .sl 4 l38, .int .i64 n40, .int .i64 n42])) else (bif (ai1 == 2) then (bif ((decide (0 ≤ ai2)) && (decide (ai2 < (bl13.length : Int)))) then (nthK bl13 (Int.toNat ai2) fun e43 => aI .i64 e43 fun n44 => G 67 [.int .i64 n44, .sl 4 bl5, .int .u64 bi6, .int .u64 bi7, .int .i64 bi8, .sl 1 bl9, .sl 1 bl10, .int .i64 (IntKind.i64.wrap (bi11 + 1)), .int .i64 bi12, .sl 1 bl13, .sl 2 bl14, .sl 4 bl15, .int .i64 bi16, .int .i64 bi17] fun o45 => uI .u64 o45 fun n47 r46 => uI .u64 r46 fun n49 r48 => uI .i64 r48 fun n51 r50 => uL 1 r50 fun l53 r52 => uL 1 r52 fun l55 r54 => uI .i64 r54 fun n57 r56 => uI .i64 r56 fun n59 r58 => uL 1 r58 fun l61 r60 => uL 2 r60 fun l63 r62 => uL 4 r62 fun l65 r64 => uI .i64 r64 fun n67 r66 => uI .i64 r66 fun n69 r68 => unNil r68 (K [.bool false, .int .i64 0, .int .u64 n47, .int .u64 n49, .int .i64 n51, .sl 1 l53, .sl 1 l55, .int .i64 n57, .int .i64 n59, .sl 1 l61, .sl 2 l63, .sl 4 l65, .int .i64 n67, .int .i64 n69])) else none) else (bif (ai1 == 3) then (G 67 [.int .i64 bi8, .sl 4 bl5, .int .u64 bi6, .int .u64 bi7, .int .i64 bi8, .sl 1 bl9, .sl 1 bl10, .int .i64 (IntKind.i64.wrap (bi11 + 1)), .int .i64 bi12, .sl 1 bl13, .sl 2 bl14, .sl 4 bl15, .int .i64 bi16, .int .i64 bi17] fun o70 => uI .u64 o70 fun n72 r71 => uI .u64 r71 fun n74 r73 => uI .i64 r73 fun n76 r75 => uL 1 r75 fun l78 r77 => uL 1 r77 fun l80 r79 => uI .i64 r79 fun n82 r81 => uI .i64 r81 fun n84 r83 => uL 1 r83 fun l86 r85 => uL 2 r85 fun l88 r87 => uL 4 r87 fun l90 r89 => uI .i64 r89 fun n92 r91 => uI .i64 r91 fun n94 r93 => unNil r93 (K [.bool false, .int .i64 0, .int .u64 n72, .int .u64 n74, .int .i64 n76, .sl 1 l78, .sl 1 l80, .int .i64 n82, .int .i64 n84, .sl 1 l86, .sl 2 l88, .sl 4 l90, .int .i64 n92, .int .i64 n94])) else (bif (ai1 == 4) then (G 69 [.agg [.int .u64 bi6, .int .u64 bi7], .int .i64 ai2] fun o95 => uB o95 fun b97 r96 => unNil r96 (G 68 [.bool b97] fun o98 => uI .i64 o98 fun n100 r99 => unNil r99 (G 67 [.int .i64 n100, .sl 4 bl5, .int .u64 bi6, .int .u64 bi7, .int .i64 bi8, .sl 1 bl9, .sl 1 bl10, .int .i64 (IntKind.i64.wrap (bi11 + 1)), .int .i64 bi12, .sl 1 bl13, .sl 2 bl14, .sl 4 bl15, .int .i64 bi16, .int .i64 bi17] fun o101 => uI .u64 o101 fun n103 r102 => uI .u64 r102 fun n105 r104 => uI .i64 r104 fun n107 r106 => uL 1 r106 fun l109 r108 => uL 1 r108 fun l111 r110 => uI .i64 r110 fun n113 r112 => uI .i64 r112 fun n115 r114 => uL 1 r114 fun l117 r116 => uL 2 r116 fun l119 r118 => uL 4 r118 fun l121 r120 => uI .i64 r120 fun n123 r122 => uI .i64 r122 fun n125 r124 => unNil r124 (K [.bool false, .int .i64 0, .int .u64 n103, .int .u64 n105, .int .i64 n107, .sl 1 l109, .sl 1 l111, .int .i64 n113, .int .i64 n115, .sl 1 l117, .sl 2 l119, .sl 4 l121, .int .i64 n123, .int .i64 n125])))) else (bif (ai1 == 5) then (G 72 [.sl 4 bl5, .int .u64 bi6, .int .u64 bi7, .int .i64 bi8, .sl 1 bl9, .sl 1 bl10, .int .i64 (IntKind.i64.wrap (bi11 + 1)), .int .i64 bi12, .sl 1 bl13, .sl 2 bl14, .sl 4 bl15, .int .i64 bi16, .int .i64 bi17] fun o126 => uI .i64 o126 fun n128 r127 => uI .u64 r127 fun n130 r129 => uI .u64 r129 fun n132 r131 => uI .i64 r131 fun n134 r133 => uL 1 r133 fun l136 r135 => uL 1 r135 fun l138 r137 => uI .i64 r137 fun n140 r139 => uI .i64 r139 fun n142 r141 => uL 1 r141 fun l144 r143 => uL 2 r143 fun l146 r145 => uL 4 r145 fun l148 r147 => uI .i64 r147 fun n150 r149 => uI .i64 r149 fun n152 r151 => unNil r151 (G 71 [.int .i64 n128] fun o153 => uI .i64 o153 fun n155 r154 => uI .i64 r154 fun n157 r156 => unNil r156 (G 70 [.int .i64 n155, .int .i64 n157] fun o158 => uB o158 fun b160 r159 => uI .i64 r159 fun n162 r161 => uI .i64 r161 fun n164 r163 => unNil r163 (bif b160 then (K [.bool true, .int .i64 n162, .int .u64 n130, .int .u64 n132, .int .i64 n134, .sl 1 l136, .sl 1 l138, .int .i64 n140, .int .i64 n142, .sl 1 l144, .sl 2 l146, .sl 4 l148, .int .i64 n150, .int .i64 n152]) else (G 67 [.int .i64 n164, .sl 4 bl5, .int .u64 n130, .int .u64 n132, .int .i64 n134, .sl 1 l136, .sl 1 l138, .int .i64 n140, .int .i64 n142, .sl 1 l144, .sl 2 l146, .sl 4 l148, .int .i64 n150, .int .i64 n152] fun o165 => uI .u64 o165 fun n167 r166 => uI .u64 r166 fun n169 r168 => uI .i64 r168 fun n171 r170 => uL 1 r170 fun l173 r172 => uL 1 r172 fun l175 r174 => uI .i64 r174 fun n177 r176 => uI .i64 r176 fun n179 r178 => uL 1 r178 fun l181 r180 => uL 2 r180 fun l183 r182 => uL 4 r182 fun l185 r184 => uI .i64 r184 fun n187 r186 => uI .i64 r186 fun n189 r188 => unNil r188 (K [.bool false, .int .i64 0, .int .u64 n167, .int .u64 n169, .int .i64 n171, .sl 1 l173, .sl 1 l175, .int .i64 n177, .int .i64 n179, .sl 1 l181, .sl 2 l183, .sl 4 l185, .int .i64 n187, .int .i64 n189])))))) else (bif (ai1 == 6) then (G 72 [.sl 4 bl5, .int .u64 bi6, .int .u64 bi7, .int .i64 bi8, .sl 1 bl9, .sl 1 bl10, .int .i64 (IntKind.i64.wrap (bi11 + 1)), .int .i64 bi12, .sl 1 bl13, .sl 2 bl14, .sl 4 bl15, .int .i64 bi16, .int .i64 bi17] fun o190 => uI .i64 o190 fun n192 r191 => uI .u64 r191 fun n194 r193 => uI .u64 r193 fun n196 r195 => uI .i64 r195 fun n198 r197 => uL 1 r197 fun l200 r199 => uL 1 r199 fun l202 r201 => uI .i64 r201 fun n204 r203 => uI .i64 r203 fun n206 r205 => uL 1 r205 fun l208 r207 => uL 2 r207 fun l210 r209 => uL 4 r209 fun l212 r211 => uI .i64 r211 fun n214 r213 => uI .i64 r213 fun n216 r215 => unNil r215 (G 68 [.bool (n192 == 0)] fun o217 => uI .i64 o217 fun n219 r218 => unNil r218 (G 67 [.int .i64 n219, .sl 4 bl5, .int .u64 n194, .int .u64 n196, .int .i64 n198, .sl 1 l200, .sl 1 l202, .int .i64 n204, .int .i64 n206, .sl 1 l208, .sl 2 l210, .sl 4 l212, .int .i64 n214, .int .i64 n216] fun o220 => uI .u64 o220 fun n222 r221 => uI .u64 r221 fun n224 r223 => uI .i64 r223 fun n226 r225 => uL 1 r225 fun l228 r227 => uL 1 r227 fun l230 r229 => uI .i64 r229 fun n232 r231 => uI .i64 r231 fun n234 r233 => uL 1 r233 fun l236 r235 => uL 2 r235 fun l238 r237 => uL 4 r237 fun l240 r239 => uI .i64 r239 fun n242 r241 => uI .i64 r241 fun n244 r243 => unNil r243 (K [.bool false, .int .i64 0, .int .u64 n222, .int .u64 n224, .int .i64 n226, .sl 1 l228, .sl 1 l230, .int .i64 n232, .int .i64 n234, .sl 1 l236, .sl 2 l238, .sl 4 l240, .int .i64 n242, .int .i64 n244])))) else (bif (ai1 == 18) then (G 72 [.sl 4 bl5, .int .u64 bi6, .int .u64 bi7, .int .i64 bi8, .sl 1 bl9, .sl 1 bl10, .int .i64 (IntKind.i64.wrap (bi11 + 1)), .int .i64 bi12, .sl 1 bl13, .sl 2 bl14, .sl 4 bl15, .int .i64 bi16, .int .i64 bi17] fun o245 => uI .i64 o245 fun n247 r246 => uI .u64 r246 fun n249 r248 => uI .u64 r248 fun n251 r250 => uI .i64 r250 fun n253 r252 => uL 1 r252 fun l255 r254 => uL 1 r254 fun l257 r256 => uI .i64 r256 fun n259 r258 => uI .i64 r258 fun n261 r260 => uL 1 r260 fun l263 r262 => uL 2 r262 fun l265 r264 => uL 4 r264 fun l267 r266 => uI .i64 r266 fun n269 r268 => uI .i64 r268 fun n271 r270 => unNil r270 (bif ((decide (0 ≤ ai2)) && (decide (ai2 < (l263.length : Int)))) then (nthK l263 (Int.toNat ai2) fun e272 => K [.bool false, .int .i64 0, .int .u64 n249, .int .u64 n251, .int .i64 n253, .sl 1 l255, .sl 1 l257, .int .i64 n259, .int .i64 n261, .sl 1 (List.set l263 (Int.toNat ai2) (.int .i64 n247)), .sl 2 l265, .sl 4 l267, .int .i64 n269, .int .i64 n271]) else none)) else (bif (ai1 == 19) then (bif (ai1 == 19) then (G 73 [.agg [.int .i64 ai1, .int .i64 ai2, .int .i64 ai3, .str as4], .sl 4 bl5, .int .u64 bi6, .int .u64 bi7, .int .i64 bi8, .sl 1 bl9, .sl 1 bl10, .int .i64 (IntKind.i64.wrap (bi11 + 1)), .int .i64 bi12, .sl 1 bl13, .sl 2 bl14, .sl 4 bl15, .int .i64 bi16, .int .i64 bi17] fun o273 => uB o273 fun b275 r274 => uI .i64 r274 fun n277 r276 => uI .u64 r276 fun n279 r278 => uI .u64 r278 fun n281 r280 => uI .i64 r280 fun n283 r282 => uL 1 r282 fun l285 r284 => uL 1 r284 fun l287 r286 => uI .i64 r286 fun n289 r288 => uI .i64 r288 fun n291 r290 => uL 1 r290 fun l293 r292 => uL 2 r292 fun l295 r294 => uL 4 r294 fun l297 r296 => uI .i64 r296 fun n299 r298 => uI .i64 r298 fun n301 r300 => unNil r300 (bif b275 then (K [.bool true, .int .i64 n277, .int .u64 n279, .int .u64 n281, .int .i64 n283, .sl 1 l285, .sl 1 l287, .int .i64 n289, .int .i64 n291, .sl 1 l293, .sl 2 l295, .sl 4 l297, .int .i64 n299, .int .i64 n301]) else (K [.bool false, .int .i64 0, .int .u64 n279, .int .u64 n281, .int .i64 n283, .sl 1 l285, .sl 1 l287, .int .i64 n289, .int .i64 n291, .sl 1 l293, .sl 2 l295, .sl 4 l297, .int .i64 n299, .int .i64 n301]))) else (bif (ai1 == 23) then (bif (ai1 == 23) then (G 74 [.agg [.int .i64 ai1, .int .i64 ai2, .int .i64 ai3, .str as4], .sl 4 bl5, .int .u64 bi6, .int .u64 bi7, .int .i64 bi8, .sl 1 bl9, .sl 1 bl10, .int .i64 (IntKind.i64.wrap (bi11 + 1)), .int .i64 bi12, .sl 1 bl13, .sl 2 bl14, .sl 4 bl15, .int .i64 bi16, .int .i64 bi17] fun o302 => uI .u64 o302 fun n304 r303 => uI .u64 r303 fun n306 r305 => uI .i64 r305 fun n308 r307 => uL 1 r307 fun l310 r309 => uL 1 r309 fun l312 r311 => uI .i64 r311 fun n314 r313 => uI .i64 r313 fun n316 r315 => uL 1 r315 fun l318 r317 => uL 2 r317 fun l320 r319 => uL 4 r319 fun l322 r321 => uI .i64 r321 fun n324 r323 => uI .i64 r323 fun n326 r325 => unNil r325 (K [.bool false, .int .i64 0, .int .u64 n304, .int .u64 n306, .int .i64 n308, .sl 1 l310, .sl 1 l312, .int .i64 n314, .int .i64 n316, .sl 1 l318, .sl 2 l320, .sl 4 l322, .int .i64 n324, .int .i64 n326])) else (G 72 [.sl 4 bl5, .int .u64 bi6, .int .u64 bi7, .int .i64 bi8, .sl 1 bl9, .sl 1 bl10, .int .i64 (IntKind.i64.wrap (bi11 + 1)), .int .i64 bi12, .sl 1 bl13, .sl 2 bl14, .sl 4 bl15, .int .i64 bi16, .int .i64 bi17] fun o327 => uI .i64 o327 fun n329 r328 => uI .u64 r328 fun n331 r330 => uI .u64 r330 fun n333 r332 => uI .i64 r332 fun n335 r334 => uL 1 r334 fun l337 r336 => uL 1 r336 fun l339 r338 => uI .i64 r338 fun n341 r340 => uI .i64 r340 fun n343 r342 => uL 1 r342 fun l345 r344 => uL 2 r344 fun l347 r346 => uL 4 r346 fun l349 r348 => uI .i64 r348 fun n351 r350 => uI .i64 r350 fun n353 r352 => unNil r352 (G 72 [.sl 4 bl5, .int .u64 n331, .int .u64 n333, .int .i64 n335, .sl 1 l337, .sl 1 l339, .int .i64 n341, .int .i64 n343, .sl 1 l345, .sl 2 l347, .sl 4 l349, .int .i64 n351, .int .i64 n353] fun o354 => uI .i64 o354 fun n356 r355 => uI .u64 r355 fun n358 r357 => uI .u64 r357 fun n360 r359 => uI .i64 r359 fun n362 r361 => uL 1 r361 fun l364 r363 => uL 1 r363 fun l366 r365 => uI .i64 r365 fun n368 r367 => uI .i64 r367 fun n370 r369 => uL 1 r369 fun l372 r371 => uL 2 r371 fun l374 r373 => uL 4 r373 fun l376 r375 => uI .i64 r375 fun n378 r377 => uI .i64 r377 fun n380 r379 => unNil r379 (G 75 [.int .i64 ai1, .int .i64 n356, .int .i64 n329] fun o381 => uB o381 fun b383 r382 => uI .i64 r382 fun n385 r384 => uI .i64 r384 fun n387 r386 => unNil r386 (bif b383 then (K [.bool true, .int .i64 n385, .int .u64 n358, .int .u64 n360, .int .i64 n362, .sl 1 l364, .sl 1 l366, .int .i64 n368, .int .i64 n370, .sl 1 l372, .sl 2 l374, .sl 4 l376, .int .i64 n378, .int .i64 n380]) else (G 67 [.int .i64 n387, .sl 4 bl5, .int .u64 n358, .int .u64 n360, .int .i64 n362, .sl 1 l364, .sl 1 l366, .int .i64 n368, .int .i64 n370, .sl 1 l372, .sl 2 l374, .sl 4 l376, .int .i64 n378, .int .i64 n380] fun o388 => uI .u64 o388 fun n390 r389 => uI .u64 r389 fun n392 r391 => uI .i64 r391 fun n394 r393 => uL 1 r393 fun l396 r395 => uL 1 r395 fun l398 r397 => uI .i64 r397 fun n400 r399 => uI .i64 r399 fun n402 r401 => uL 1 r401 fun l404 r403 => uL 2 r403 fun l406 r405 => uL 4 r405 fun l408 r407 => uI .i64 r407 fun n410 r409 => uI .i64 r409 fun n412 r411 => unNil r411 (K [.bool false, .int .i64 0, .int .u64 n390, .int .u64 n392, .int .i64 n394, .sl 1 l396, .sl 1 l398, .int .i64 n400, .int .i64 n402, .sl 1 l404, .sl 2 l406, .sl 4 l408, .int .i64 n410, .int .i64 n412]))))))) else (bif (ai1 == 24) then (bif (ai1 == 24) then (G 74 [.agg [.int .i64 ai1, .int .i64 ai2, .int .i64 ai3, .str as4], .sl 4 bl5, .int .u64 bi6, .int .u64 bi7, .int .i64 bi8, .sl 1 bl9, .sl 1 bl10, .int .i64 (IntKind.i64.wrap (bi11 + 1)), .int .i64 bi12, .sl 1 bl13, .sl 2 bl14, .sl 4 bl15, .int .i64 bi16, .int .i64 bi17] fun o413 => uI .u64 o413 fun n415 r414 => uI .u64 r414 fun n417 r416 => uI .i64 r416 fun n419 r418 => uL 1 r418 fun l421 r420 => uL 1 r420 fun l423 r422 => uI .i64 r422 fun n425 r424 => uI .i64 r424 fun n427 r426 => uL 1 r426 fun l429 r428 => uL 2 r428 fun l431 r430 => uL 4 r430 fun l433 r432 => uI .i64 r432 fun n435 r434 => uI .i64 r434 fun n437 r436 => unNil r436 (K [.bool false, .int .i64 0, .int .u64 n415, .int .u64 n417, .int .i64 n419, .sl 1 l421, .sl 1 l423, .int .i64 n425, .int .i64 n427, .sl 1 l429, .sl 2 l431, .sl 4 l433, .int .i64 n435, .int .i64 n437])) else (G 72 [.sl 4 bl5, .int .u64 bi6, .int .u64 bi7, .int .i64 bi8, .sl 1 bl9, .sl 1 bl10, .int .i64 (IntKind.i64.wrap (bi11 + 1)), .int .i64 bi12, .sl 1 bl13, .sl 2 bl14, .sl 4 bl15, .int .i64 bi16, .int .i64 bi17] fun o438 => uI .i64 o438 fun n440 r439 => uI .u64 r439 fun n442 r441 => uI .u64 r441 fun n444 r443 => uI .i64 r443 fun n446 r445 => uL 1 r445 fun l448 r447 => uL 1 r447 fun l450 r449 => uI .i64 r449 fun n452 r451 => uI .i64 r451 fun n454 r453 => uL 1 r453 fun l456 r455 => uL 2 r455 fun l458 r457 => uL 4 r457 fun l460 r459 => uI .i64 r459 fun n462 r461 => uI .i64 r461 fun n464 r463 => unNil r463 (G 72 [.sl 4 bl5, .int .u64 n442, .int .u64 n444, .int .i64 n446, .sl 1 l448, .sl 1 l450, .int .i64 n452, .int .i64 n454, .sl 1 l456, .sl 2 l458, .sl 4 l460, .int .i64 n462, .int .i64 n464] fun o465 => uI .i64 o465 fun n467 r466 => uI .u64 r466 fun n469 r468 => uI .u64 r468 fun n471 r470 => uI .i64 r470 fun n473 r472 => uL 1 r472 fun l475 r474 => uL 1 r474 fun l477 r476 => uI .i64 r476 fun n479 r478 => uI .i64 r478 fun n481 r480 => uL 1 r480 fun l483 r482 => uL 2 r482 fun l485 r484 => uL 4 r484 fun l487 r486 => uI .i64 r486 fun n489 r488 => uI .i64 r488 fun n491 r490 => unNil r490 (G 75 [.int .i64 ai1, .int .i64 n467, .int .i64 n440] fun o492 => uB o492 fun b494 r493 => uI .i64 r493 fun n496 r495 => uI .i64 r495 fun n498 r497 => unNil r497 (bif b494 then (K [.bool true, .int .i64 n496, .int .u64 n469, .int .u64 n471, .int .i64 n473, .sl 1 l475, .sl 1 l477, .int .i64 n479, .int .i64 n481, .sl 1 l483, .sl 2 l485, .sl 4 l487, .int .i64 n489, .int .i64 n491]) else (G 67 [.int .i64 n498, .sl 4 bl5, .int .u64 n469, .int .u64 n471, .int .i64 n473, .sl 1 l475, .sl 1 l477, .int .i64 n479, .int .i64 n481, .sl 1 l483, .sl 2 l485, .sl 4 l487, .int .i64 n489, .int .i64 n491] fun o499 => uI .u64 o499 fun n501 r500 => uI .u64 r500 fun n503 r502 => uI .i64 r502 fun n505 r504 => uL 1 r504 fun l507 r506 => uL 1 r506 fun l509 r508 => uI .i64 r508 fun n511 r510 => uI .i64 r510 fun n513 r512 => uL 1 r512 fun l515 r514 => uL 2 r514 fun l517 r516 => uL 4 r516 fun l519 r518 => uI .i64 r518 fun n521 r520 => uI .i64 r520 fun n523 r522 => unNil r522 (K [.bool false, .int .i64 0, .int .u64 n501, .int .u64 n503, .int .i64 n505, .sl 1 l507, .sl 1 l509, .int .i64 n511, .int .i64 n513, .sl 1 l515, .sl 2 l517, .sl 4 l519, .int .i64 n521, .int .i64 n523]))))))) else (bif (ai1 == 25) then (bif (ai1 == 25) then (G 74 [.agg [.int .i64 ai1, .int .i64 ai2, .int .i64 ai3, .str as4], .sl 4 bl5, .int .u64 bi6, .int .u64 bi7, .int .i64 bi8, .sl 1 bl9, .sl 1 bl10, .int .i64 (IntKind.i64.wrap (bi11 + 1)), .int .i64 bi12, .sl 1 bl13, .sl 2 bl14, .sl 4 bl15, .int .i64 bi16, .int .i64 bi17] fun o524 => uI .u64 o524 fun n526 r525 => uI .u64 r525 fun n528 r527 => uI .i64 r527 fun n530 r529 => uL 1 r529 fun l532 r531 => uL 1 r531 fun l534 r533 => uI .i64 r533 fun n536 r535 => uI .i64 r535 fun n538 r537 => uL 1 r537 fun l540 r539 => uL 2 r539 fun l542 r541 => uL 4 r541 fun l544 r543 => uI .i64 r543 fun n546 r545 => uI .i64 r545 fun n548 r547 => unNil r547 (K [.bool false, .int .i64 0, .int .u64 n526, .int .u64 n528, .int .i64 n530, .sl 1 l532, .sl 1 l534, .int .i64 n536, .int .i64 n538, .sl 1 l540, .sl 2 l542, .sl 4 l544, .int .i64 n546, .int .i64 n548])) else (G 72 [.sl 4 bl5, .int .u64 bi6, .int .u64 bi7, .int .i64 bi8, .sl 1 bl9, .sl 1 bl10, .int .i64 (IntKind.i64.wrap (bi11 + 1)), .int .i64 bi12, .sl 1 bl13, .sl 2 bl14, .sl 4 bl15, .int .i64 bi16, .int .i64 bi17] fun o549 => uI .i64 o549 fun n551 r550 => uI .u64 r550 fun n553 r552 => uI .u64 r552 fun n555 r554 => uI .i64 r554 fun n557 r556 => uL 1 r556 fun l559 r558 => uL 1 r558 fun l561 r560 => uI .i64 r560 fun n563 r562 => uI .i64 r562 fun n565 r564 => uL 1 r564 fun l567 r566 => uL 2 r566 fun l569 r568 => uL 4 r568 fun l571 r570 => uI .i64 r570 fun n573 r572 => uI .i64 r572 fun n575 r574 => unNil r574 (G 72 [.sl 4 bl5, .int .u64 n553, .int .u64 n555, .int .i64 n557, .sl 1 l559, .sl 1 l561, .int .i64 n563, .int .i64 n565, .sl 1 l567, .sl 2 l569, .sl 4 l571, .int .i64 n573, .int .i64 n575] fun o576 => uI .i64 o576 fun n578 r577 => uI .u64 r577 fun n580 r579 => uI .u64 r579 fun n582 r581 => uI .i64 r581 fun n584 r583 => uL 1 r583 fun l586 r585 => uL 1 r585 fun l588 r587 => uI .i64 r587 fun n590 r589 => uI .i64 r589 fun n592 r591 => uL 1 r591 fun l594 r593 => uL 2 r593 fun l596 r595 => uL 4 r595 fun l598 r597 => uI .i64 r597 fun n600 r599 => uI .i64 r599 fun n602 r601 => unNil r601 (G 75 [.int .i64 ai1, .int .i64 n578, .int .i64 n551] fun o603 => uB o603 fun b605 r604 => uI .i64 r604 fun n607 r606 => uI .i64 r606 fun n609 r608 => unNil r608 (bif b605 then (K [.bool true, .int .i64 n607, .int .u64 n580, .int .u64 n582, .int .i64 n584, .sl 1 l586, .sl 1 l588, .int .i64 n590, .int .i64 n592, .sl 1 l594, .sl 2 l596, .sl 4 l598, .int .i64 n600, .int .i64 n602]) else (G 67 [.int .i64 n609, .sl 4 bl5, .int .u64 n580, .int .u64 n582, .int .i64 n584, .sl 1 l586, .sl 1 l588, .int .i64 n590, .int .i64 n592, .sl 1 l594, .sl 2 l596, .sl 4 l598, .int .i64 n600, .int .i64 n602] fun o610 => uI .u64 o610 fun n612 r611 => uI .u64 r611 fun n614 r613 => uI .i64 r613 fun n616 r615 => uL 1 r615 fun l618 r617 => uL 1 r617 fun l620 r619 => uI .i64 r619 fun n622 r621 => uI .i64 r621 fun n624 r623 => uL 1 r623 fun l626 r625 => uL 2 r625 fun l628 r627 => uL 4 r627 fun l630 r629 => uI .i64 r629 fun n632 r631 => uI .i64 r631 fun n634 r633 => unNil r633 (K [.bool false, .int .i64 0, .int .u64 n612, .int .u64 n614, .int .i64 n616, .sl 1 l618, .sl 1 l620, .int .i64 n622, .int .i64 n624, .sl 1 l626, .sl 2 l628, .sl 4 l630, .int .i64 n632, .int .i64 n634]))))))) else (bif (ai1 == 26) then (G 74 [.agg [.int .i64 ai1, .int .i64 ai2, .int .i64 ai3, .str as4], .sl 4 bl5, .int .u64 bi6, .int .u64 bi7, .int .i64 bi8, .sl 1 bl9, .sl 1 bl10, .int .i64 (IntKind.i64.wrap (bi11 + 1)), .int .i64 bi12, .sl 1 bl13, .sl 2 bl14, .sl 4 bl15, .int .i64 bi16, .int .i64 bi17] fun o635 => uI .u64 o635 fun n637 r636 => uI .u64 r636 fun n639 r638 => uI .i64 r638 fun n641 r640 => uL 1 r640 fun l643 r642 => uL 1 r642 fun l645 r644 => uI .i64 r644 fun n647 r646 => uI .i64 r646 fun n649 r648 => uL 1 r648 fun l651 r650 => uL 2 r650 fun l653 r652 => uL 4 r652 fun l655 r654 => uI .i64 r654 fun n657 r656 => uI .i64 r656 fun n659 r658 => unNil r658 (K [.bool false, .int .i64 0, .int .u64 n637, .int .u64 n639, .int .i64 n641, .sl 1 l643, .sl 1 l645, .int .i64 n647, .int .i64 n649, .sl 1 l651, .sl 2 l653, .sl 4 l655, .int .i64 n657, .int .i64 n659])) else (G 72 [.sl 4 bl5, .int .u64 bi6, .int .u64 bi7, .int .i64 bi8, .sl 1 bl9, .sl 1 bl10, .int .i64 (IntKind.i64.wrap (bi11 + 1)), .int .i64 bi12, .sl 1 bl13, .sl 2 bl14, .sl 4 bl15, .int .i64 bi16, .int .i64 bi17] fun o660 => uI .i64 o660 fun n662 r661 => uI .u64 r661 fun n664 r663 => uI .u64 r663 fun n666 r665 => uI .i64 r665 fun n668 r667 => uL 1 r667 fun l670 r669 => uL 1 r669 fun l672 r671 => uI .i64 r671 fun n674 r673 => uI .i64 r673 fun n676 r675 => uL 1 r675 fun l678 r677 => uL 2 r677 fun l680 r679 => uL 4 r679 fun l682 r681 => uI .i64 r681 fun n684 r683 => uI .i64 r683 fun n686 r685 => unNil r685 (G 72 [.sl 4 bl5, .int .u64 n664, .int .u64 n666, .int .i64 n668, .sl 1 l670, .sl 1 l672, .int .i64 n674, .int .i64 n676, .sl 1 l678, .sl 2 l680, .sl 4 l682, .int .i64 n684, .int .i64 n686] fun o687 => uI .i64 o687 fun n689 r688 => uI .u64 r688 fun n691 r690 => uI .u64 r690 fun n693 r692 => uI .i64 r692 fun n695 r694 => uL 1 r694 fun l697 r696 => uL 1 r696 fun l699 r698 => uI .i64 r698 fun n701 r700 => uI .i64 r700 fun n703 r702 => uL 1 r702 fun l705 r704 => uL 2 r704 fun l707 r706 => uL 4 r706 fun l709 r708 => uI .i64 r708 fun n711 r710 => uI .i64 r710 fun n713 r712 => unNil r712 (G 75 [.int .i64 ai1, .int .i64 n689, .int .i64 n662] fun o714 => uB o714 fun b716 r715 => uI .i64 r715 fun n718 r717 => uI .i64 r717 fun n720 r719 => unNil r719 (bif b716 then (K [.bool true, .int .i64 n718, .int .u64 n691, .int .u64 n693, .int .i64 n695, .sl 1 l697, .sl 1 l699, .int .i64 n701, .int .i64 n703, .sl 1 l705, .sl 2 l707, .sl 4 l709, .int .i64 n711, .int .i64 n713]) else (G 67 [.int .i64 n720, .sl 4 bl5, .int .u64 n691, .int .u64 n693, .int .i64 n695, .sl 1 l697, .sl 1 l699, .int .i64 n701, .int .i64 n703, .sl 1 l705, .sl 2 l707, .sl 4 l709, .int .i64 n711, .int .i64 n713] fun o721 => uI .u64 o721 fun n723 r722 => uI .u64 r722 fun n725 r724 => uI .i64 r724 fun n727 r726 => uL 1 r726 fun l729 r728 => uL 1 r728 fun l731 r730 => uI .i64 r730 fun n733 r732 => uI .i64 r732 fun n735 r734 => uL 1 r734 fun l737 r736 => uL 2 r736 fun l739 r738 => uL 4 r738 fun l741 r740 => uI .i64 r740 fun n743 r742 => uI .i64 r742 fun n745 r744 => unNil r744 (K [.bool false, .int .i64 0, .int .u64 n723, .int .u64 n725, .int .i64 n727, .sl 1 l729, .sl 1 l731, .int .i64 n733, .int .i64 n735, .sl 1 l737, .sl 2 l739, .sl 4 l741, .int .i64 n743, .int .i64 n745]))))))))))) else (bif (ai1 == 20) then (bif (ai1 == 20) then (G 73 [.agg [.int .i64 ai1, .int .i64 ai2, .int .i64 ai3, .str as4], .sl 4 bl5, .int .u64 bi6, .int .u64 bi7, .int .i64 bi8, .sl 1 bl9, .sl 1 bl10, .int .i64 (IntKind.i64.wrap (bi11 + 1)), .int .i64 bi12, .sl 1 bl13, .sl 2 bl14, .sl 4 bl15, .int .i64 bi16, .int .i64 bi17] fun o746 => uB o746 fun b748 r747 => uI .i64 r747 fun n750 r749 => uI .u64 r749 fun n752 r751 => uI .u64 r751 fun n754 r753 => uI .i64 r753 fun n756 r755 => uL 1 r755 fun l758 r757 => uL 1 r757 fun l760 r759 => uI .i64 r759 fun n762 r761 => uI .i64 r761 fun n764 r763 => uL 1 r763 fun l766 r765 => uL 2 r765 fun l768 r767 => uL 4 r767 fun l770 r769 => uI .i64 r769 fun n772 r771 => uI .i64 r771 fun n774 r773 => unNil r773 (bif b748 then (K [.bool true, .int .i64 n750, .int .u64 n752, .int .u64 n754, .int .i64 n756, .sl 1 l758, .sl 1 l760, .int .i64 n762, .int .i64 n764, .sl 1 l766, .sl 2 l768, .sl 4 l770, .int .i64 n772, .int .i64 n774]) else (K [.bool false, .int .i64 0, .int .u64 n752, .int .u64 n754, .int .i64 n756, .sl 1 l758, .sl 1 l760, .int .i64 n762, .int .i64 n764, .sl 1 l766, .sl 2 l768, .sl 4 l770, .int .i64 n772, .int .i64 n774]))) else (bif (ai1 == 23) then (bif (ai1 == 23) then (G 74 [.agg [.int .i64 ai1, .int .i64 ai2, .int .i64 ai3, .str as4], .sl 4 bl5, .int .u64 bi6, .int .u64 bi7, .int .i64 bi8, .sl 1 bl9, .sl 1 bl10, .int .i64 (IntKind.i64.wrap (bi11 + 1)), .int .i64 bi12, .sl 1 bl13, .sl 2 bl14, .sl 4 bl15, .int .i64 bi16, .int .i64 bi17] fun o775 => uI .u64 o775 fun n777 r776 => uI .u64 r776 fun n779 r778 => uI .i64 r778 fun n781 r780 => uL 1 r780 fun l783 r782 => uL 1 r782 fun l785 r784 => uI .i64 r784 fun n787 r786 => uI .i64 r786 fun n789 r788 => uL 1 r788 fun l791 r790 => uL 2 r790 fun l793 r792 => uL 4 r792 fun l795 r794 => uI .i64 r794 fun n797 r796 => uI .i64 r796 fun n799 r798 => unNil r798 (K [.bool false, .int .i64 0, .int .u64 n777, .int .u64 n779, .int .i64 n781, .sl 1 l783, .sl 1 l785, .int .i64 n787, .int .i64 n789, .sl 1 l791, .sl 2 l793, .sl 4 l795, .int .i64 n797, .int .i64 n799])) else (G 72 [.sl 4 bl5, .int .u64 bi6, .int .u64 bi7, .int .i64 bi8, .sl 1 bl9, .sl 1 bl10, .int .i64 (IntKind.i64.wrap (bi11 + 1)), .int .i64 bi12, .sl 1 bl13, .sl 2 bl14, .sl 4 bl15, .int .i64 bi16, .int .i64 bi17] fun o800 => uI .i64 o800 fun n802 r801 => uI .u64 r801 fun n804 r803 => uI .u64 r803 fun n806 r805 => uI .i64 r805 fun n808 r807 => uL 1 r807 fun l810 r809 => uL 1 r809 fun l812 r811 => uI .i64 r811 fun n814 r813 => uI .i64 r813 fun n816 r815 => uL 1 r815 fun l818 r817 => uL 2 r817 fun l820 r819 => uL 4 r819 fun l822 r821 => uI .i64 r821 fun n824 r823 => uI .i64 r823 fun n826 r825 => unNil r825 (G 72 [.sl 4 bl5, .int .u64 n804, .int .u64 n806, .int .i64 n808, .sl 1 l810, .sl 1 l812, .int .i64 n814, .int .i64 n816, .sl 1 l818, .sl 2 l820, .sl 4 l822, .int .i64 n824, .int .i64 n826] fun o827 => uI .i64 o827 fun n829 r828 => uI .u64 r828 fun n831 r830 => uI .u64 r830 fun n833 r832 => uI .i64 r832 fun n835 r834 => uL 1 r834 fun l837 r836 => uL 1 r836 fun l839 r838 => uI .i64 r838 fun n841 r840 => uI .i64 r840 fun n843 r842 => uL 1 r842 fun l845 r844 => uL 2 r844 fun l847 r846 => uL 4 r846 fun l849 r848 => uI .i64 r848 fun n851 r850 => uI .i64 r850 fun n853 r852 => unNil r852 (G 75 [.int .i64 ai1, .int .i64 n829, .int .i64 n802] fun o854 => uB o854 fun b856 r855 => uI .i64 r855 fun n858 r857 => uI .i64 r857 fun n860 r859 => unNil r859 (bif b856 then (K [.bool true, .int .i64 n858, .int .u64 n831, .int .u64 n833, .int .i64 n835, .sl 1 l837, .sl 1 l839, .int .i64 n841, .int .i64 n843, .sl 1 l845, .sl 2 l847, .sl 4 l849, .int .i64 n851, .int .i64 n853]) else (G 67 [.int .i64 n860, .sl 4 bl5, .int .u64 n831, .int .u64 n833, .int .i64 n835, .sl 1 l837, .sl 1 l839, .int .i64 n841, .int .i64 n843, .sl 1 l845, .sl 2 l847, .sl 4 l849, .int .i64 n851, .int .i64 n853] fun o861 => uI .u64 o861 fun n863 r862 => uI .u64 r862 fun n865 r864 => uI .i64 r864 fun n867 r866 => uL 1 r866 fun l869 r868 => uL 1 r868 fun l871 r870 => uI .i64 r870 fun n873 r872 => uI .i64 r872 fun n875 r874 => uL 1 r874 fun l877 r876 => uL 2 r876 fun l879 r878 => uL 4 r878 fun l881 r880 => uI .i64 r880 fun n883 r882 => uI .i64 r882 fun n885 r884 => unNil r884 (K [.bool false, .int .i64 0, .int .u64 n863, .int .u64 n865, .int .i64 n867, .sl 1 l869, .sl 1 l871, .int .i64 n873, .int .i64 n875, .sl 1 l877, .sl 2 l879, .sl 4 l881, .int .i64 n883, .int .i64 n885]))))))) else (bif (ai1 == 24) then (bif (ai1 == 24) then (G 74 [.agg [.int .i64 ai1, .int .i64 ai2, .int .i64 ai3, .str as4], .sl 4 bl5, .int .u64 bi6, .int .u64 bi7, .int .i64 bi8, .sl 1 bl9, .sl 1 bl10, .int .i64 (IntKind.i64.wrap (bi11 + 1)), .int .i64 bi12, .sl 1 bl13, .sl 2 bl14, .sl 4 bl15, .int .i64 bi16, .int .i64 bi17] fun o886 => uI .u64 o886 fun n888 r887 => uI .u64 r887 fun n890 r889 => uI .i64 r889 fun n892 r891 => uL 1 r891 fun l894 r893 => uL 1 r893 fun l896 r895 => uI .i64 r895 fun n898 r897 => uI .i64 r897 fun n900 r899 => uL 1 r899 fun l902 r901 => uL 2 r901 fun l904 r903 => uL 4 r903 fun l906 r905 => uI .i64 r905 fun n908 r907 => uI .i64 r907 fun n910 r909 => unNil r909 (K [.bool false, .int .i64 0, .int .u64 n888, .int .u64 n890, .int .i64 n892, .sl 1 l894, .sl 1 l896, .int .i64 n898, .int .i64 n900, .sl 1 l902, .sl 2 l904, .sl 4 l906, .int .i64 n908, .int .i64 n910])) else (G 72 [.sl 4 bl5, .int .u64 bi6, .int .u64 bi7, .int .i64 bi8, .sl 1 bl9, .sl 1 bl10, .int .i64 (IntKind.i64.wrap (bi11 + 1)), .int .i64 bi12, .sl 1 bl13, .sl 2 bl14, .sl 4 bl15, .int .i64 bi16, .int .i64 bi17] fun o911 => uI .i64 o911 fun n913 r912 => uI .u64 r912 fun n915 r914 => uI .u64 r914 fun n917 r916 => uI .i64 r916 fun n919 r918 => uL 1 r918 fun l921 r920 => uL 1 r920 fun l923 r922 => uI .i64 r922 fun n925 r924 => uI .i64 r924 fun n927 r926 => uL 1 r926 fun l929 r928 => uL 2 r928 fun l931 r930 => uL 4 r930 fun l933 r932 => uI .i64 r932 fun n935 r934 => uI .i64 r934 fun n937 r936 => unNil r936 (G 72 [.sl 4 bl5, .int .u64 n915, .int .u64 n917, .int .i64 n919, .sl 1 l921, .sl 1 l923, .int .i64 n925, .int .i64 n927, .sl 1 l929, .sl 2 l931, .sl 4 l933, .int .i64 n935, .int .i64 n937] fun o938 => uI .i64 o938 fun n940 r939 => uI .u64 r939 fun n942 r941 => uI .u64 r941 fun n944 r943 => uI .i64 r943 fun n946 r945 => uL 1 r945 fun l948 r947 => uL 1 r947 fun l950 r949 => uI .i64 r949 fun n952 r951 => uI .i64 r951 fun n954 r953 => uL 1 r953 fun l956 r955 => uL 2 r955 fun l958 r957 => uL 4 r957 fun l960 r959 => uI .i64 r959 fun n962 r961 => uI .i64 r961 fun n964 r963 => unNil r963 (G 75 [.int .i64 ai1, .int .i64 n940, .int .i64 n913] fun o965 => uB o965 fun b967 r966 => uI .i64 r966 fun n969 r968 => uI .i64 r968 fun n971 r970 => unNil r970 (bif b967 then (K [.bool true, .int .i64 n969, .int .u64 n942, .int .u64 n944, .int .i64 n946, .sl 1 l948, .sl 1 l950, .int .i64 n952, .int .i64 n954, .sl 1 l956, .sl 2 l958, .sl 4 l960, .int .i64 n962, .int .i64 n964]) else (G 67 [.int .i64 n971, .sl 4 bl5, .int .u64 n942, .int .u64 n944, .int .i64 n946, .sl 1 l948, .sl 1 l950, .int .i64 n952, .int .i64 n954, .sl 1 l956, .sl 2 l958, .sl 4 l960, .int .i64 n962, .int .i64 n964] fun o972 => uI .u64 o972 fun n974 r973 => uI .u64 r973 fun n976 r975 => uI .i64 r975 fun n978 r977 => uL 1 r977 fun l980 r979 => uL 1 r979 fun l982 r981 => uI .i64 r981 fun n984 r983 => uI .i64 r983 fun n986 r985 => uL 1 r985 fun l988 r987 => uL 2 r987 fun l990 r989 => uL 4 r989 fun l992 r991 => uI .i64 r991 fun n994 r993 => uI .i64 r993 fun n996 r995 => unNil r995 (K [.bool false, .int .i64 0, .int .u64 n974, .int .u64 n976, .int .i64 n978, .sl 1 l980, .sl 1 l982, .int .i64 n984, .int .i64 n986, .sl 1 l988, .sl 2 l990, .sl 4 l992, .int .i64 n994, .int .i64 n996]))))))) else (bif (ai1 == 25) then (bif (ai1 == 25) then (G 74 [.agg [.int .i64 ai1, .int .i64 ai2, .int .i64 ai3, .str as4], .sl 4 bl5, .int .u64 bi6, .int .u64 bi7, .int .i64 bi8, .sl 1 bl9, .sl 1 bl10, .int .i64 (IntKind.i64.wrap (bi11 + 1)), .int .i64 bi12, .sl 1 bl13, .sl 2 bl14, .sl 4 bl15, .int .i64 bi16, .int .i64 bi17] fun o997 => uI .u64 o997 fun n999 r998 => uI .u64 r998 fun n1001 r1000 => uI .i64 r1000 fun n1003 r1002 => uL 1 r1002 fun l1005 r1004 => uL 1 r1004 fun l1007 r1006 => uI .i64 r1006 fun n1009 r1008 => uI .i64 r1008 fun n1011 r1010 => uL 1 r1010 fun l1013 r1012 => uL 2 r1012 fun l1015 r1014 => uL 4 r1014 fun l1017 r1016 => uI .i64 r1016 fun n1019 r1018 => uI .i64 r1018 fun n1021 r1020 => unNil r1020 (K [.bool false, .int .i64 0, .int .u64 n999, .int .u64 n1001, .int .i64 n1003, .sl 1 l1005, .sl 1 l1007, .int .i64 n1009, .int .i64 n1011, .sl 1 l1013, .sl 2 l1015, .sl 4 l1017, .int .i64 n1019, .int .i64 n1021])) else (G 72 [.sl 4 bl5, .int .u64 bi6, .int .u64 bi7, .int .i64 bi8, .sl 1 bl9, .sl 1 bl10, .int .i64 (IntKind.i64.wrap (bi11 + 1)), .int .i64 bi12, .sl 1 bl13, .sl 2 bl14, .sl 4 bl15, .int .i64 bi16, .int .i64 bi17] fun o1022 => uI .i64 o1022 fun n1024 r1023 => uI .u64 r1023 fun n1026 r1025 => uI .u64 r1025 fun n1028 r1027 => uI .i64 r1027 fun n1030 r1029 => uL 1 r1029 fun l1032 r1031 => uL 1 r1031 fun l1034 r1033 => uI .i64 r1033 fun n1036 r1035 => uI .i64 r1035 fun n1038 r1037 => uL 1 r1037 fun l1040 r1039 => uL 2 r1039 fun l1042 r1041 => uL 4 r1041 fun l1044 r1043 => uI .i64 r1043 fun n1046 r1045 => uI .i64 r1045 fun n1048 r1047 => unNil r1047 (G 72 [.sl 4 bl5, .int .u64 n1026, .int .u64 n1028, .int .i64 n1030, .sl 1 l1032, .sl 1 l1034, .int .i64 n1036, .int .i64 n1038, .sl 1 l1040, .sl 2 l1042, .sl 4 l1044, .int .i64 n1046, .int .i64 n1048] fun o1049 => uI .i64 o1049 fun n1051 r1050 => uI .u64 r1050 fun n1053 r1052 => uI .u64 r1052 fun n1055 r1054 => uI .i64 r1054 fun n1057 r1056 => uL 1 r1056 fun l1059 r1058 => uL 1 r1058 fun l1061 r1060 => uI .i64 r1060 fun n1063 r1062 => uI .i64 r1062 fun n1065 r1064 => uL 1 r1064 fun l1067 r1066 => uL 2 r1066 fun l1069 r1068 => uL 4 r1068 fun l1071 r1070 => uI .i64 r1070 fun n1073 r1072 => uI .i64 r1072 fun n1075 r1074 => unNil r1074 (G 75 [.int .i64 ai1, .int .i64 n1051, .int .i64 n1024] fun o1076 => uB o1076 fun b1078 r1077 => uI .i64 r1077 fun n1080 r1079 => uI .i64 r1079 fun n1082 r1081 => unNil r1081 (bif b1078 then (K [.bool true, .int .i64 n1080, .int .u64 n1053, .int .u64 n1055, .int .i64 n1057, .sl 1 l1059, .sl 1 l1061, .int .i64 n1063, .int .i64 n1065, .sl 1 l1067, .sl 2 l1069, .sl 4 l1071, .int .i64 n1073, .int .i64 n1075]) else (G 67 [.int .i64 n1082, .sl 4 bl5, .int .u64 n1053, .int .u64 n1055, .int .i64 n1057, .sl 1 l1059, .sl 1 l1061, .int .i64 n1063, .int .i64 n1065, .sl 1 l1067, .sl 2 l1069, .sl 4 l1071, .int .i64 n1073, .int .i64 n1075] fun o1083 => uI .u64 o1083 fun n1085 r1084 => uI .u64 r1084 fun n1087 r1086 => uI .i64 r1086 fun n1089 r1088 => uL 1 r1088 fun l1091 r1090 => uL 1 r1090 fun l1093 r1092 => uI .i64 r1092 fun n1095 r1094 => uI .i64 r1094 fun n1097 r1096 => uL 1 r1096 fun l1099 r1098 => uL 2 r1098 fun l1101 r1100 => uL 4 r1100 fun l1103 r1102 => uI .i64 r1102 fun n1105 r1104 => uI .i64 r1104 fun n1107 r1106 => unNil r1106 (K [.bool false, .int .i64 0, .int .u64 n1085, .int .u64 n1087, .int .i64 n1089, .sl 1 l1091, .sl 1 l1093, .int .i64 n1095, .int .i64 n1097, .sl 1 l1099, .sl 2 l1101, .sl 4 l1103, .int .i64 n1105, .int .i64 n1107]))))))) else (bif (ai1 == 26) then (G 74 [.agg [.int .i64 ai1, .int .i64 ai2, .int .i64 ai3, .str as4], .sl 4 bl5, .int .u64 bi6, .int .u64 bi7, .int .i64 bi8, .sl 1 bl9, .sl 1 bl10, .int .i64 (IntKind.i64.wrap (bi11 + 1)), .int .i64 bi12, .sl 1 bl13, .sl 2 bl14, .sl 4 bl15, .int .i64 bi16, .int .i64 bi17] fun o1108 => uI .u64 o1108 fun n1110 r1109 => uI .u64 r1109 fun n1112 r1111 => uI .i64 r1111 fun n1114 r1113 => uL 1 r1113 fun l1116 r1115 => uL 1 r1115 fun l1118 r1117 => uI .i64 r1117 fun n1120 r1119 => uI .i64 r1119 fun n1122 r1121 => uL 1 r1121 fun l1124 r1123 => uL 2 r1123 fun l1126 r1125 => uL 4 r1125 fun l1128 r1127 => uI .i64 r1127 fun n1130 r1129 => uI .i64 r1129 fun n1132 r1131 => unNil r1131 (K [.bool false, .int .i64 0, .int .u64 n1110, .int .u64 n1112, .int .i64 n1114, .sl 1 l1116, .sl 1 l1118, .int .i64 n1120, .int .i64 n1122, .sl 1 l1124, .sl 2 l1126, .sl 4 l1128, .int .i64 n1130, .int .i64 n1132])) else (G 72 [.sl 4 bl5, .int .u64 bi6, .int .u64 bi7, .int .i64 bi8, .sl 1 bl9, .sl 1 bl10, .int .i64 (IntKind.i64.wrap (bi11 + 1)), .int .i64 bi12, .sl 1 bl13, .sl 2 bl14, .sl 4 bl15, .int .i64 bi16, .int .i64 bi17] fun o1133 => uI .i64 o1133 fun n1135 r1134 => uI .u64 r1134 fun n1137 r1136 => uI .u64 r1136 fun n1139 r1138 => uI .i64 r1138 fun n1141 r1140 => uL 1 r1140 fun l1143 r1142 => uL 1 r1142 fun l1145 r1144 => uI .i64 r1144 fun n1147 r1146 => uI .i64 r1146 fun n1149 r1148 => uL 1 r1148 fun l1151 r1150 => uL 2 r1150 fun l1153 r1152 => uL 4 r1152 fun l1155 r1154 => uI .i64 r1154 fun n1157 r1156 => uI .i64 r1156 fun n1159 r1158 => unNil r1158 (G 72 [.sl 4 bl5, .int .u64 n1137, .int .u64 n1139, .int .i64 n1141, .sl 1 l1143, .sl 1 l1145, .int .i64 n1147, .int .i64 n1149, .sl 1 l1151, .sl 2 l1153, .sl 4 l1155, .int .i64 n1157, .int .i64 n1159] fun o1160 => uI .i64 o1160 fun n1162 r1161 => uI .u64 r1161 fun n1164 r1163 => uI .u64 r1163 fun n1166 r1165 => uI .i64 r1165 fun n1168 r1167 => uL 1 r1167 fun l1170 r1169 => uL 1 r1169 fun l1172 r1171 => uI .i64 r1171 fun n1174 r1173 => uI .i64 r1173 fun n1176 r1175 => uL 1 r1175 fun l1178 r1177 => uL 2 r1177 fun l1180 r1179 => uL 4 r1179 fun l1182 r1181 => uI .i64 r1181 fun n1184 r1183 => uI .i64 r1183 fun n1186 r1185 => unNil r1185 (G 75 [.int .i64 ai1, .int .i64 n1162, .int .i64 n1135] fun o1187 => uB o1187 fun b1189 r1188 => uI .i64 r1188 fun n1191 r1190 => uI .i64 r1190 fun n1193 r1192 => unNil r1192 (bif b1189 then (K [.bool true, .int .i64 n1191, .int .u64 n1164, .int .u64 n1166, .int .i64 n1168, .sl 1 l1170, .sl 1 l1172, .int .i64 n1174, .int .i64 n1176, .sl 1 l1178, .sl 2 l1180, .sl 4 l1182, .int .i64 n1184, .int .i64 n1186]) else (G 67 [.int .i64 n1193, .sl 4 bl5, .int .u64 n1164, .int .u64 n1166, .int .i64 n1168, .sl 1 l1170, .sl 1 l1172, .int .i64 n1174, .int .i64 n1176, .sl 1 l1178, .sl 2 l1180, .sl 4 l1182, .int .i64 n1184, .int .i64 n1186] fun o1194 => uI .u64 o1194 fun n1196 r1195 => uI .u64 r1195 fun n1198 r1197 => uI .i64 r1197 fun n1200 r1199 => uL 1 r1199 fun l1202 r1201 => uL 1 r1201 fun l1204 r1203 => uI .i64 r1203 fun n1206 r1205 => uI .i64 r1205 fun n1208 r1207 => uL 1 r1207 fun l1210 r1209 => uL 2 r1209 fun l1212 r1211 => uL 4 r1211 fun l1214 r1213 => uI .i64 r1213 fun n1216 r1215 => uI .i64 r1215 fun n1218 r1217 => unNil r1217 (K [.bool false, .int .i64 0, .int .u64 n1196, .int .u64 n1198, .int .i64 n1200, .sl 1 l1202, .sl 1 l1204, .int .i64 n1206, .int .i64 n1208, .sl 1 l1210, .sl 2 l1212, .sl 4 l1214, .int .i64 n1216, .int .i64 n1218]))))))))))) else (bif (ai1 == 21) then (bif (ai1 == 21) then (G 73 [.agg [.int .i64 ai1, .int .i64 ai2, .int .i64 ai3, .str as4], .sl 4 bl5, .int .u64 bi6, .int .u64 bi7, .int .i64 bi8, .sl 1 bl9, .sl 1 bl10, .int .i64 (IntKind.i64.wrap (bi11 + 1)), .int .i64 bi12, .sl 1 bl13, .sl 2 bl14, .sl 4 bl15, .int .i64 bi16, .int .i64 bi17] fun o1219 => uB o1219 fun b1221 r1220 => uI .i64 r1220 fun n1223 r1222 => uI .u64 r1222 fun n1225 r1224 => uI .u64 r1224 fun n1227 r1226 => uI .i64 r1226 fun n1229 r1228 => uL 1 r1228 fun l1231 r1230 => uL 1 r1230 fun l1233 r1232 => uI .i64 r1232 fun n1235 r1234 => uI .i64 r1234 fun n1237 r1236 => uL 1 r1236 fun l1239 r1238 => uL 2 r1238 fun l1241 r1240 => uL 4 r1240 fun l1243 r1242 => uI .i64 r1242 fun n1245 r1244 => uI .i64 r1244 fun n1247 r1246 => unNil r1246 (bif b1221 then (K [.bool true, .int .i64 n1223, .int .u64 n1225, .int .u64 n1227, .int .i64 n1229, .sl 1 l1231, .sl 1 l1233, .int .i64 n1235, .int .i64 n1237, .sl 1 l1239, .sl 2 l1241, .sl 4 l1243, .int .i64 n1245, .int .i64 n1247]) else (K [.bool false, .int .i64 0, .int .u64 n1225, .int .u64 n1227, .int .i64 n1229, .sl 1 l1231, .sl 1 l1233, .int .i64 n1235, .int .i64 n1237, .sl 1 l1239, .sl 2 l1241, .sl 4 l1243, .int .i64 n1245, .int .i64 n1247]))) else (bif (ai1 == 23) then (bif (ai1 == 23) then (G 74 [.agg [.int .i64 ai1, .int .i64 ai2, .int .i64 ai3, .str as4], .sl 4 bl5, .int .u64 bi6, .int .u64 bi7, .int .i64 bi8, .sl 1 bl9, .sl 1 bl10, .int .i64 (IntKind.i64.wrap (bi11 + 1)), .int .i64 bi12, .sl 1 bl13, .sl 2 bl14, .sl 4 bl15, .int .i64 bi16, .int .i64 bi17] fun o1248 => uI .u64 o1248 fun n1250 r1249 => uI .u64 r1249 fun n1252 r1251 => uI .i64 r1251 fun n1254 r1253 => uL 1 r1253 fun l1256 r1255 => uL 1 r1255 fun l1258 r1257 => uI .i64 r1257 fun n1260 r1259 => uI .i64 r1259 fun n1262 r1261 => uL 1 r1261 fun l1264 r1263 => uL 2 r1263 fun l1266 r1265 => uL 4 r1265 fun l1268 r1267 => uI .i64 r1267 fun n1270 r1269 => uI .i64 r1269 fun n1272 r1271 => unNil r1271 (K [.bool false, .int .i64 0, .int .u64 n1250, .int .u64 n1252, .int .i64 n1254, .sl 1 l1256, .sl 1 l1258, .int .i64 n1260, .int .i64 n1262, .sl 1 l1264, .sl 2 l1266, .sl 4 l1268, .int .i64 n1270, .int .i64 n1272])) else (G 72 [.sl 4 bl5, .int .u64 bi6, .int .u64 bi7, .int .i64 bi8, .sl 1 bl9, .sl 1 bl10, .int .i64 (IntKind.i64.wrap (bi11 + 1)), .int .i64 bi12, .sl 1 bl13, .sl 2 bl14, .sl 4 bl15, .int .i64 bi16, .int .i64 bi17] fun o1273 => uI .i64 o1273 fun n1275 r1274 => uI .u64 r1274 fun n1277 r1276 => uI .u64 r1276 fun n1279 r1278 => uI .i64 r1278 fun n1281 r1280 => uL 1 r1280 fun l1283 r1282 => uL 1 r1282 fun l1285 r1284 => uI .i64 r1284 fun n1287 r1286 => uI .i64 r1286 fun n1289 r1288 => uL 1 r1288 fun l1291 r1290 => uL 2 r1290 fun l1293 r1292 => uL 4 r1292 fun l1295 r1294 => uI .i64 r1294 fun n1297 r1296 => uI .i64 r1296 fun n1299 r1298 => unNil r1298 (G 72 [.sl 4 bl5, .int .u64 n1277, .int .u64 n1279, .int .i64 n1281, .sl 1 l1283, .sl 1 l1285, .int .i64 n1287, .int .i64 n1289, .sl 1 l1291, .sl 2 l1293, .sl 4 l1295, .int .i64 n1297, .int .i64 n1299] fun o1300 => uI .i64 o1300 fun n1302 r1301 => uI .u64 r1301 fun n1304 r1303 => uI .u64 r1303 fun n1306 r1305 => uI .i64 r1305 fun n1308 r1307 => uL 1 r1307 fun l1310 r1309 => uL 1 r1309 fun l1312 r1311 => uI .i64 r1311 fun n1314 r1313 => uI .i64 r1313 fun n1316 r1315 => uL 1 r1315 fun l1318 r1317 => uL 2 r1317 fun l1320 r1319 => uL 4 r1319 fun l1322 r1321 => uI .i64 r1321 fun n1324 r1323 => uI .i64 r1323 fun n1326 r1325 => unNil r1325 (G 75 [.int .i64 ai1, .int .i64 n1302, .int .i64 n1275] fun o1327 => uB o1327 fun b1329 r1328 => uI .i64 r1328 fun n1331 r1330 => uI .i64 r1330 fun n1333 r1332 => unNil r1332 (bif b1329 then (K [.bool true, .int .i64 n1331, .int .u64 n1304, .int .u64 n1306, .int .i64 n1308, .sl 1 l1310, .sl 1 l1312, .int .i64 n1314, .int .i64 n1316, .sl 1 l1318, .sl 2 l1320, .sl 4 l1322, .int .i64 n1324, .int .i64 n1326]) else (G 67 [.int .i64 n1333, .sl 4 bl5, .int .u64 n1304, .int .u64 n1306, .int .i64 n1308, .sl 1 l1310, .sl 1 l1312, .int .i64 n1314, .int .i64 n1316, .sl 1 l1318, .sl 2 l1320, .sl 4 l1322, .int .i64 n1324, .int .i64 n1326] fun o1334 => uI .u64 o1334 fun n1336 r1335 => uI .u64 r1335 fun n1338 r1337 => uI .i64 r1337 fun n1340 r1339 => uL 1 r1339 fun l1342 r1341 => uL 1 r1341 fun l1344 r1343 => uI .i64 r1343 fun n1346 r1345 => uI .i64 r1345 fun n1348 r1347 => uL 1 r1347 fun l1350 r1349 => uL 2 r1349 fun l1352 r1351 => uL 4 r1351 fun l1354 r1353 => uI .i64 r1353 fun n1356 r1355 => uI .i64 r1355 fun n1358 r1357 => unNil r1357 (K [.bool false, .int .i64 0, .int .u64 n1336, .int .u64 n1338, .int .i64 n1340, .sl 1 l1342, .sl 1 l1344, .int .i64 n1346, .int .i64 n1348, .sl 1 l1350, .sl 2 l1352, .sl 4 l1354, .int .i64 n1356, .int .i64 n1358]))))))) else (bif (ai1 == 24) then (bif (ai1 == 24) then (G 74 [.agg [.int .i64 ai1, .int .i64 ai2, .int .i64 ai3, .str as4], .sl 4 bl5, .int .u64 bi6, .int .u64 bi7, .int .i64 bi8, .sl 1 bl9, .sl 1 bl10, .int .i64 (IntKind.i64.wrap (bi11 + 1)), .int .i64 bi12, .sl 1 bl13, .sl 2 bl14, .sl 4 bl15, .int .i64 bi16, .int .i64 bi17] fun o1359 => uI .u64 o1359 fun n1361 r1360 => uI .u64 r1360 fun n1363 r1362 => uI .i64 r1362 fun n1365 r1364 => uL 1 r1364 fun l1367 r1366 => uL 1 r1366 fun l1369 r1368 => uI .i64 r1368 fun n1371 r1370 => uI .i64 r1370 fun n1373 r1372 => uL 1 r1372 fun l1375 r1374 => uL 2 r1374 fun l1377 r1376 => uL 4 r1376 fun l1379 r1378 => uI .i64 r1378 fun n1381 r1380 => uI .i64 r1380 fun n1383 r1382 => unNil r1382 (K [.bool false, .int .i64 0, .int .u64 n1361, .int .u64 n1363, .int .i64 n1365, .sl 1 l1367, .sl 1 l1369, .int .i64 n1371, .int .i64 n1373, .sl 1 l1375, .sl 2 l1377, .sl 4 l1379, .int .i64 n1381, .int .i64 n1383])) else (G 72 [.sl 4 bl5, .int .u64 bi6, .int .u64 bi7, .int .i64 bi8, .sl 1 bl9, .sl 1 bl10, .int .i64 (IntKind.i64.wrap (bi11 + 1)), .int .i64 bi12, .sl 1 bl13, .sl 2 bl14, .sl 4 bl15, .int .i64 bi16, .int .i64 bi17] fun o1384 => uI .i64 o1384 fun n1386 r1385 => uI .u64 r1385 fun n1388 r1387 => uI .u64 r1387 fun n1390 r1389 => uI .i64 r1389 fun n1392 r1391 => uL 1 r1391 fun l1394 r1393 => uL 1 r1393 fun l1396 r1395 => uI .i64 r1395 fun n1398 r1397 => uI .i64 r1397 fun n1400 r1399 => uL 1 r1399 fun l1402 r1401 => uL 2 r1401 fun l1404 r1403 => uL 4 r1403 fun l1406 r1405 => uI .i64 r1405 fun n1408 r1407 => uI .i64 r1407 fun n1410 r1409 => unNil r1409 (G 72 [.sl 4 bl5, .int .u64 n1388, .int .u64 n1390, .int .i64 n1392, .sl 1 l1394, .sl 1 l1396, .int .i64 n1398, .int .i64 n1400, .sl 1 l1402, .sl 2 l1404, .sl 4 l1406, .int .i64 n1408, .int .i64 n1410] fun o1411 => uI .i64 o1411 fun n1413 r1412 => uI .u64 r1412 fun n1415 r1414 => uI .u64 r1414 fun n1417 r1416 => uI .i64 r1416 fun n1419 r1418 => uL 1 r1418 fun l1421 r1420 => uL 1 r1420 fun l1423 r1422 => uI .i64 r1422 fun n1425 r1424 => uI .i64 r1424 fun n1427 r1426 => uL 1 r1426 fun l1429 r1428 => uL 2 r1428 fun l1431 r1430 => uL 4 r1430 fun l1433 r1432 => uI .i64 r1432 fun n1435 r1434 => uI .i64 r1434 fun n1437 r1436 => unNil r1436 (G 75 [.int .i64 ai1, .int .i64 n1413, .int .i64 n1386] fun o1438 => uB o1438 fun b1440 r1439 => uI .i64 r1439 fun n1442 r1441 => uI .i64 r1441 fun n1444 r1443 => unNil r1443 (bif b1440 then (K [.bool true, .int .i64 n1442, .int .u64 n1415, .int .u64 n1417, .int .i64 n1419, .sl 1 l1421, .sl 1 l1423, .int .i64 n1425, .int .i64 n1427, .sl 1 l1429, .sl 2 l1431, .sl 4 l1433, .int .i64 n1435, .int .i64 n1437]) else (G 67 [.int .i64 n1444, .sl 4 bl5, .int .u64 n1415, .int .u64 n1417, .int .i64 n1419, .sl 1 l1421, .sl 1 l1423, .int .i64 n1425, .int .i64 n1427, .sl 1 l1429, .sl 2 l1431, .sl 4 l1433, .int .i64 n1435, .int .i64 n1437] fun o1445 => uI .u64 o1445 fun n1447 r1446 => uI .u64 r1446 fun n1449 r1448 => uI .i64 r1448 fun n1451 r1450 => uL 1 r1450 fun l1453 r1452 => uL 1 r1452 fun l1455 r1454 => uI .i64 r1454 fun n1457 r1456 => uI .i64 r1456 fun n1459 r1458 => uL 1 r1458 fun l1461 r1460 => uL 2 r1460 fun l1463 r1462 => uL 4 r1462 fun l1465 r1464 => uI .i64 r1464 fun n1467 r1466 => uI .i64 r1466 fun n1469 r1468 => unNil r1468 (K [.bool false, .int .i64 0, .int .u64 n1447, .int .u64 n1449, .int .i64 n1451, .sl 1 l1453, .sl 1 l1455, .int .i64 n1457, .int .i64 n1459, .sl 1 l1461, .sl 2 l1463, .sl 4 l1465, .int .i64 n1467, .int .i64 n1469]))))))) else (bif (ai1 == 25) then (bif (ai1 == 25) then (G 74 [.agg [.int .i64 ai1, .int .i64 ai2, .int .i64 ai3, .str as4], .sl 4 bl5, .int .u64 bi6, .int .u64 bi7, .int .i64 bi8, .sl 1 bl9, .sl 1 bl10, .int .i64 (IntKind.i64.wrap (bi11 + 1)), .int .i64 bi12, .sl 1 bl13, .sl 2 bl14, .sl 4 bl15, .int .i64 bi16, .int .i64 bi17] fun o1470 => uI .u64 o1470 fun n1472 r1471 => uI .u64 r1471 fun n1474 r1473 => uI .i64 r1473 fun n1476 r1475 => uL 1 r1475 fun l1478 r1477 => uL 1 r1477 fun l1480 r1479 => uI .i64 r1479 fun n1482 r1481 => uI .i64 r1481 fun n1484 r1483 => uL 1 r1483 fun l1486 r1485 => uL 2 r1485 fun l1488 r1487 => uL 4 r1487 fun l1490 r1489 => uI .i64 r1489 fun n1492 r1491 => uI .i64 r1491 fun n1494 r1493 => unNil r1493 (K [.bool false, .int .i64 0, .int .u64 n1472, .int .u64 n1474, .int .i64 n1476, .sl 1 l1478, .sl 1 l1480, .int .i64 n1482, .int .i64 n1484, .sl 1 l1486, .sl 2 l1488, .sl 4 l1490, .int .i64 n1492, .int .i64 n1494])) else (G 72 [.sl 4 bl5, .int .u64 bi6, .int .u64 bi7, .int .i64 bi8, .sl 1 bl9, .sl 1 bl10, .int .i64 (IntKind.i64.wrap (bi11 + 1)), .int .i64 bi12, .sl 1 bl13, .sl 2 bl14, .sl 4 bl15, .int .i64 bi16, .int .i64 bi17] fun o1495 => uI .i64 o1495 fun n1497 r1496 => uI .u64 r1496 fun n1499 r1498 => uI .u64 r1498 fun n1501 r1500 => uI .i64 r1500 fun n1503 r1502 => uL 1 r1502 fun l1505 r1504 => uL 1 r1504 fun l1507 r1506 => uI .i64 r1506 fun n1509 r1508 => uI .i64 r1508 fun n1511 r1510 => uL 1 r1510 fun l1513 r1512 => uL 2 r1512 fun l1515 r1514 => uL 4 r1514 fun l1517 r1516 => uI .i64 r1516 fun n1519 r1518 => uI .i64 r1518 fun n1521 r1520 => unNil r1520 (G 72 [.sl 4 bl5, .int .u64 n1499, .int .u64 n1501, .int .i64 n1503, .sl 1 l1505, .sl 1 l1507, .int .i64 n1509, .int .i64 n1511, .sl 1 l1513, .sl 2 l1515, .sl 4 l1517, .int .i64 n1519, .int .i64 n1521] fun o1522 => uI .i64 o1522 fun n1524 r1523 => uI .u64 r1523 fun n1526 r1525 => uI .u64 r1525 fun n1528 r1527 => uI .i64 r1527 fun n1530 r1529 => uL 1 r1529 fun l1532 r1531 => uL 1 r1531 fun l1534 r1533 => uI .i64 r1533 fun n1536 r1535 => uI .i64 r1535 fun n1538 r1537 => uL 1 r1537 fun l1540 r1539 => uL 2 r1539 fun l1542 r1541 => uL 4 r1541 fun l1544 r1543 => uI .i64 r1543 fun n1546 r1545 => uI .i64 r1545 fun n1548 r1547 => unNil r1547 (G 75 [.int .i64 ai1, .int .i64 n1524, .int .i64 n1497] fun o1549 => uB o1549 fun b1551 r1550 => uI .i64 r1550 fun n1553 r1552 => uI .i64 r1552 fun n1555 r1554 => unNil r1554 (bif b1551 then (K [.bool true, .int .i64 n1553, .int .u64 n1526, .int .u64 n1528, .int .i64 n1530, .sl 1 l1532, .sl 1 l1534, .int .i64 n1536, .int .i64 n1538, .sl 1 l1540, .sl 2 l1542, .sl 4 l1544, .int .i64 n1546, .int .i64 n1548]) else (G 67 [.int .i64 n1555, .sl 4 bl5, .int .u64 n1526, .int .u64 n1528, .int .i64 n1530, .sl 1 l1532, .sl 1 l1534, .int .i64 n1536, .int .i64 n1538, .sl 1 l1540, .sl 2 l1542, .sl 4 l1544, .int .i64 n1546, .int .i64 n1548] fun o1556 => uI .u64 o1556 fun n1558 r1557 => uI .u64 r1557 fun n1560 r1559 => uI .i64 r1559 fun n1562 r1561 => uL 1 r1561 fun l1564 r1563 => uL 1 r1563 fun l1566 r1565 => uI .i64 r1565 fun n1568 r1567 => uI .i64 r1567 fun n1570 r1569 => uL 1 r1569 fun l1572 r1571 => uL 2 r1571 fun l1574 r1573 => uL 4 r1573 fun l1576 r1575 => uI .i64 r1575 fun n1578 r1577 => uI .i64 r1577 fun n1580 r1579 => unNil r1579 (K [.bool false, .int .i64 0, .int .u64 n1558, .int .u64 n1560, .int .i64 n1562, .sl 1 l1564, .sl 1 l1566, .int .i64 n1568, .int .i64 n1570, .sl 1 l1572, .sl 2 l1574, .sl 4 l1576, .int .i64 n1578, .int .i64 n1580]))))))) else (bif (ai1 == 26) then (G 74 [.agg [.int .i64 ai1, .int .i64 ai2, .int .i64 ai3, .str as4], .sl 4 bl5, .int .u64 bi6, .int .u64 bi7, .int .i64 bi8, .sl 1 bl9, .sl 1 bl10, .int .i64 (IntKind.i64.wrap (bi11 + 1)), .int .i64 bi12, .sl 1 bl13, .sl 2 bl14, .sl 4 bl15, .int .i64 bi16, .int .i64 bi17] fun o1581 => uI .u64 o1581 fun n1583 r1582 => uI .u64 r1582 fun n1585 r1584 => uI .i64 r1584 fun n1587 r1586 => uL 1 r1586 fun l1589 r1588 => uL 1 r1588 fun l1591 r1590 => uI .i64 r1590 fun n1593 r1592 => uI .i64 r1592 fun n1595 r1594 => uL 1 r1594 fun l1597 r1596 => uL 2 r1596 fun l1599 r1598 => uL 4 r1598 fun l1601 r1600 => uI .i64 r1600 fun n1603 r1602 => uI .i64 r1602 fun n1605 r1604 => unNil r1604 (K [.bool false, .int .i64 0, .int .u64 n1583, .int .u64 n1585, .int .i64 n1587, .sl 1 l1589, .sl 1 l1591, .int .i64 n1593, .int .i64 n1595, .sl 1 l1597, .sl 2 l1599, .sl 4 l1601, .int .i64 n1603, .int .i64 n1605])) else (G 72 [.sl 4 bl5, .int .u64 bi6, .int .u64 bi7, .int .i64 bi8, .sl 1 bl9, .sl 1 bl10, .int .i64 (IntKind.i64.wrap (bi11 + 1)), .int .i64 bi12, .sl 1 bl13, .sl 2 bl14, .sl 4 bl15, .int .i64 bi16, .int .i64 bi17] fun o1606 => uI .i64 o1606 fun n1608 r1607 => uI .u64 r1607 fun n1610 r1609 => uI .u64 r1609 fun n1612 r1611 => uI .i64 r1611 fun n1614 r1613 => uL 1 r1613 fun l1616 r1615 => uL 1 r1615 fun l1618 r1617 => uI .i64 r1617 fun n1620 r1619 => uI .i64 r1619 fun n1622 r1621 => uL 1 r1621 fun l1624 r1623 => uL 2 r1623 fun l1626 r1625 => uL 4 r1625 fun l1628 r1627 => uI .i64 r1627 fun n1630 r1629 => uI .i64 r1629 fun n1632 r1631 => unNil r1631 (G 72 [.sl 4 bl5, .int .u64 n1610, .int .u64 n1612, .int .i64 n1614, .sl 1 l1616, .sl 1 l1618, .int .i64 n1620, .int .i64 n1622, .sl 1 l1624, .sl 2 l1626, .sl 4 l1628, .int .i64 n1630, .int .i64 n1632] fun o1633 => uI .i64 o1633 fun n1635 r1634 => uI .u64 r1634 fun n1637 r1636 => uI .u64 r1636 fun n1639 r1638 => uI .i64 r1638 fun n1641 r1640 => uL 1 r1640 fun l1643 r1642 => uL 1 r1642 fun l1645 r1644 => uI .i64 r1644 fun n1647 r1646 => uI .i64 r1646 fun n1649 r1648 => uL 1 r1648 fun l1651 r1650 => uL 2 r1650 fun l1653 r1652 => uL 4 r1652 fun l1655 r1654 => uI .i64 r1654 fun n1657 r1656 => uI .i64 r1656 fun n1659 r1658 => unNil r1658 (G 75 [.int .i64 ai1, .int .i64 n1635, .int .i64 n1608] fun o1660 => uB o1660 fun b1662 r1661 => uI .i64 r1661 fun n1664 r1663 => uI .i64 r1663 fun n1666 r1665 => unNil r1665 (bif b1662 then (K [.bool true, .int .i64 n1664, .int .u64 n1637, .int .u64 n1639, .int .i64 n1641, .sl 1 l1643, .sl 1 l1645, .int .i64 n1647, .int .i64 n1649, .sl 1 l1651, .sl 2 l1653, .sl 4 l1655, .int .i64 n1657, .int .i64 n1659]) else (G 67 [.int .i64 n1666, .sl 4 bl5, .int .u64 n1637, .int .u64 n1639, .int .i64 n1641, .sl 1 l1643, .sl 1 l1645, .int .i64 n1647, .int .i64 n1649, .sl 1 l1651, .sl 2 l1653, .sl 4 l1655, .int .i64 n1657, .int .i64 n1659] fun o1667 => uI .u64 o1667 fun n1669 r1668 => uI .u64 r1668 fun n1671 r1670 => uI .i64 r1670 fun n1673 r1672 => uL 1 r1672 fun l1675 r1674 => uL 1 r1674 fun l1677 r1676 => uI .i64 r1676 fun n1679 r1678 => uI .i64 r1678 fun n1681 r1680 => uL 1 r1680 fun l1683 r1682 => uL 2 r1682 fun l1685 r1684 => uL 4 r1684 fun l1687 r1686 => uI .i64 r1686 fun n1689 r1688 => uI .i64 r1688 fun n1691 r1690 => unNil r1690 (K [.bool false, .int .i64 0, .int .u64 n1669, .int .u64 n1671, .int .i64 n1673, .sl 1 l1675, .sl 1 l1677, .int .i64 n1679, .int .i64 n1681, .sl 1 l1683, .sl 2 l1685, .sl 4 l1687, .int .i64 n1689, .int .i64 n1691]))))))))))) else (bif (ai1 == 22) then (G 73 [.agg [.int .i64 ai1, .int .i64 ai2, .int .i64 ai3, .str as4], .sl 4 bl5, .int .u64 bi6, .int .u64 bi7, .int .i64 bi8, .sl 1 bl9, .sl 1 bl10, .int .i64 (IntKind.i64.wrap (bi11 + 1)), .int .i64 bi12, .sl 1 bl13, .sl 2 bl14, .sl 4 bl15, .int .i64 bi16, .int .i64 bi17] fun o1692 => uB o1692 fun b1694 r1693 => uI .i64 r1693 fun n1696 r1695 => uI .u64 r1695 fun n1698 r1697 => uI .u64 r1697 fun n1700 r1699 => uI .i64 r1699 fun n1702 r1701 => uL 1 r1701 fun l1704 r1703 => uL 1 r1703 fun l1706 r1705 => uI .i64 r1705 fun n1708 r1707 => uI .i64 r1707 fun n1710 r1709 => uL 1 r1709 fun l1712 r1711 => uL 2 r1711 fun l1714 r1713 => uL 4 r1713 fun l1716 r1715 => uI .i64 r1715 fun n1718 r1717 => uI .i64 r1717 fun n1720 r1719 => unNil r1719 (bif b1694 then (K [.bool true, .int .i64 n1696, .int .u64 n1698, .int .u64 n1700, .int .i64 n1702, .sl 1 l1704, .sl 1 l1706, .int .i64 n1708, .int .i64 n1710, .sl 1 l1712, .sl 2 l1714, .sl 4 l1716, .int .i64 n1718, .int .i64 n1720]) else (K [.bool false, .int .i64 0, .int .u64 n1698, .int .u64 n1700, .int .i64 n1702, .sl 1 l1704, .sl 1 l1706, .int .i64 n1708, .int .i64 n1710, .sl 1 l1712, .sl 2 l1714, .sl 4 l1716, .int .i64 n1718, .int .i64 n1720]))) else (bif (ai1 == 23) then (bif (ai1 == 23) then (G 74 [.agg [.int .i64 ai1, .int .i64 ai2, .int .i64 ai3, .str as4], .sl 4 bl5, .int .u64 bi6, .int .u64 bi7, .int .i64 bi8, .sl 1 bl9, .sl 1 bl10, .int .i64 (IntKind.i64.wrap (bi11 + 1)), .int .i64 bi12, .sl 1 bl13, .sl 2 bl14, .sl 4 bl15, .int .i64 bi16, .int .i64 bi17] fun o1721 => uI .u64 o1721 fun n1723 r1722 => uI .u64 r1722 fun n1725 r1724 => uI .i64 r1724 fun n1727 r1726 => uL 1 r1726 fun l1729 r1728 => uL 1 r1728 fun l1731 r1730 => uI .i64 r1730 fun n1733 r1732 => uI .i64 r1732 fun n1735 r1734 => uL 1 r1734 fun l1737 r1736 => uL 2 r1736 fun l1739 r1738 => uL 4 r1738 fun l1741 r1740 => uI .i64 r1740 fun n1743 r1742 => uI .i64 r1742 fun n1745 r1744 => unNil r1744 (K [.bool false, .int .i64 0, .int .u64 n1723, .int .u64 n1725, .int .i64 n1727, .sl 1 l1729, .sl 1 l1731, .int .i64 n1733, .int .i64 n1735, .sl 1 l1737, .sl 2 l1739, .sl 4 l1741, .int .i64 n1743, .int .i64 n1745])) else (G 72 [.sl 4 bl5, .int .u64 bi6, .int .u64 bi7, .int .i64 bi8, .sl 1 bl9, .sl 1 bl10, .int .i64 (IntKind.i64.wrap (bi11 + 1)), .int .i64 bi12, .sl 1 bl13, .sl 2 bl14, .sl 4 bl15, .int .i64 bi16, .int .i64 bi17] fun o1746 => uI .i64 o1746 fun n1748 r1747 => uI .u64 r1747 fun n1750 r1749 => uI .u64 r1749 fun n1752 r1751 => uI .i64 r1751 fun n1754 r1753 => uL 1 r1753 fun l1756 r1755 => uL 1 r1755 fun l1758 r1757 => uI .i64 r1757 fun n1760 r1759 => uI .i64 r1759 fun n1762 r1761 => uL 1 r1761 fun l1764 r1763 => uL 2 r1763 fun l1766 r1765 => uL 4 r1765 fun l1768 r1767 => uI .i64 r1767 fun n1770 r1769 => uI .i64 r1769 fun n1772 r1771 => unNil r1771 (G 72 [.sl 4 bl5, .int .u64 n1750, .int .u64 n1752, .int .i64 n1754, .sl 1 l1756, .sl 1 l1758, .int .i64 n1760, .int .i64 n1762, .sl 1 l1764, .sl 2 l1766, .sl 4 l1768, .int .i64 n1770, .int .i64 n1772] fun o1773 => uI .i64 o1773 fun n1775 r1774 => uI .u64 r1774 fun n1777 r1776 => uI .u64 r1776 fun n1779 r1778 => uI .i64 r1778 fun n1781 r1780 => uL 1 r1780 fun l1783 r1782 => uL 1 r1782 fun l1785 r1784 => uI .i64 r1784 fun n1787 r1786 => uI .i64 r1786 fun n1789 r1788 => uL 1 r1788 fun l1791 r1790 => uL 2 r1790 fun l1793 r1792 => uL 4 r1792 fun l1795 r1794 => uI .i64 r1794 fun n1797 r1796 => uI .i64 r1796 fun n1799 r1798 => unNil r1798 (G 75 [.int .i64 ai1, .int .i64 n1775, .int .i64 n1748] fun o1800 => uB o1800 fun b1802 r1801 => uI .i64 r1801 fun n1804 r1803 => uI .i64 r1803 fun n1806 r1805 => unNil r1805 (bif b1802 then (K [.bool true, .int .i64 n1804, .int .u64 n1777, .int .u64 n1779, .int .i64 n1781, .sl 1 l1783, .sl 1 l1785, .int .i64 n1787, .int .i64 n1789, .sl 1 l1791, .sl 2 l1793, .sl 4 l1795, .int .i64 n1797, .int .i64 n1799]) else (G 67 [.int .i64 n1806, .sl 4 bl5, .int .u64 n1777, .int .u64 n1779, .int .i64 n1781, .sl 1 l1783, .sl 1 l1785, .int .i64 n1787, .int .i64 n1789, .sl 1 l1791, .sl 2 l1793, .sl 4 l1795, .int .i64 n1797, .int .i64 n1799] fun o1807 => uI .u64 o1807 fun n1809 r1808 => uI .u64 r1808 fun n1811 r1810 => uI .i64 r1810 fun n1813 r1812 => uL 1 r1812 fun l1815 r1814 => uL 1 r1814 fun l1817 r1816 => uI .i64 r1816 fun n1819 r1818 => uI .i64 r1818 fun n1821 r1820 => uL 1 r1820 fun l1823 r1822 => uL 2 r1822 fun l1825 r1824 => uL 4 r1824 fun l1827 r1826 => uI .i64 r1826 fun n1829 r1828 => uI .i64 r1828 fun n1831 r1830 => unNil r1830 (K [.bool false, .int .i64 0, .int .u64 n1809, .int .u64 n1811, .int .i64 n1813, .sl 1 l1815, .sl 1 l1817, .int .i64 n1819, .int .i64 n1821, .sl 1 l1823, .sl 2 l1825, .sl 4 l1827, .int .i64 n1829, .int .i64 n1831]))))))) else (bif (ai1 == 24) then (bif (ai1 == 24) then (G 74 [.agg [.int .i64 ai1, .int .i64 ai2, .int .i64 ai3, .str as4], .sl 4 bl5, .int .u64 bi6, .int .u64 bi7, .int .i64 bi8, .sl 1 bl9, .sl 1 bl10, .int .i64 (IntKind.i64.wrap (bi11 + 1)), .int .i64 bi12, .sl 1 bl13, .sl 2 bl14, .sl 4 bl15, .int .i64 bi16, .int .i64 bi17] fun o1832 => uI .u64 o1832 fun n1834 r1833 => uI .u64 r1833 fun n1836 r1835 => uI .i64 r1835 fun n1838 r1837 => uL 1 r1837 fun l1840 r1839 => uL 1 r1839 fun l1842 r1841 => uI .i64 r1841 fun n1844 r1843 => uI .i64 r1843 fun n1846 r1845 => uL 1 r1845 fun l1848 r1847 => uL 2 r1847 fun l1850 r1849 => uL 4 r1849 fun l1852 r1851 => uI .i64 r1851 fun n1854 r1853 => uI .i64 r1853 fun n1856 r1855 => unNil r1855 (K [.bool false, .int .i64 0, .int .u64 n1834, .int .u64 n1836, .int .i64 n1838, .sl 1 l1840, .sl 1 l1842, .int .i64 n1844, .int .i64 n1846, .sl 1 l1848, .sl 2 l1850, .sl 4 l1852, .int .i64 n1854, .int .i64 n1856])) else (G 72 [.sl 4 bl5, .int .u64 bi6, .int .u64 bi7, .int .i64 bi8, .sl 1 bl9, .sl 1 bl10, .int .i64 (IntKind.i64.wrap (bi11 + 1)), .int .i64 bi12, .sl 1 bl13, .sl 2 bl14, .sl 4 bl15, .int .i64 bi16, .int .i64 bi17] fun o1857 => uI .i64 o1857 fun n1859 r1858 => uI .u64 r1858 fun n1861 r1860 => uI .u64 r1860 fun n1863 r1862 => uI .i64 r1862 fun n1865 r1864 => uL 1 r1864 fun l1867 r1866 => uL 1 r1866 fun l1869 r1868 => uI .i64 r1868 fun n1871 r1870 => uI .i64 r1870 fun n1873 r1872 => uL 1 r1872 fun l1875 r1874 => uL 2 r1874 fun l1877 r1876 => uL 4 r1876 fun l1879 r1878 => uI .i64 r1878 fun n1881 r1880 => uI .i64 r1880 fun n1883 r1882 => unNil r1882 (G 72 [.sl 4 bl5, .int .u64 n1861, .int .u64 n1863, .int .i64 n1865, .sl 1 l1867, .sl 1 l1869, .int .i64 n1871, .int .i64 n1873, .sl 1 l1875, .sl 2 l1877, .sl 4 l1879, .int .i64 n1881, .int .i64 n1883] fun o1884 => uI .i64 o1884 fun n1886 r1885 => uI .u64 r1885 fun n1888 r1887 => uI .u64 r1887 fun n1890 r1889 => uI .i64 r1889 fun n1892 r1891 => uL 1 r1891 fun l1894 r1893 => uL 1 r1893 fun l1896 r1895 => uI .i64 r1895 fun n1898 r1897 => uI .i64 r1897 fun n1900 r1899 => uL 1 r1899 fun l1902 r1901 => uL 2 r1901 fun l1904 r1903 => uL 4 r1903 fun l1906 r1905 => uI .i64 r1905 fun n1908 r1907 => uI .i64 r1907 fun n1910 r1909 => unNil r1909 (G 75 [.int .i64 ai1, .int .i64 n1886, .int .i64 n1859] fun o1911 => uB o1911 fun b1913 r1912 => uI .i64 r1912 fun n1915 r1914 => uI .i64 r1914 fun n1917 r1916 => unNil r1916 (bif b1913 then (K [.bool true, .int .i64 n1915, .int .u64 n1888, .int .u64 n1890, .int .i64 n1892, .sl 1 l1894, .sl 1 l1896, .int .i64 n1898, .int .i64 n1900, .sl 1 l1902, .sl 2 l1904, .sl 4 l1906, .int .i64 n1908, .int .i64 n1910]) else (G 67 [.int .i64 n1917, .sl 4 bl5, .int .u64 n1888, .int .u64 n1890, .int .i64 n1892, .sl 1 l1894, .sl 1 l1896, .int .i64 n1898, .int .i64 n1900, .sl 1 l1902, .sl 2 l1904, .sl 4 l1906, .int .i64 n1908, .int .i64 n1910] fun o1918 => uI .u64 o1918 fun n1920 r1919 => uI .u64 r1919 fun n1922 r1921 => uI .i64 r1921 fun n1924 r1923 => uL 1 r1923 fun l1926 r1925 => uL 1 r1925 fun l1928 r1927 => uI .i64 r1927 fun n1930 r1929 => uI .i64 r1929 fun n1932 r1931 => uL 1 r1931 fun l1934 r1933 => uL 2 r1933 fun l1936 r1935 => uL 4 r1935 fun l1938 r1937 => uI .i64 r1937 fun n1940 r1939 => uI .i64 r1939 fun n1942 r1941 => unNil r1941 (K [.bool false, .int .i64 0, .int .u64 n1920, .int .u64 n1922, .int .i64 n1924, .sl 1 l1926, .sl 1 l1928, .int .i64 n1930, .int .i64 n1932, .sl 1 l1934, .sl 2 l1936, .sl 4 l1938, .int .i64 n1940, .int .i64 n1942]))))))) else (bif (ai1 == 25) then (bif (ai1 == 25) then (G 74 [.agg [.int .i64 ai1, .int .i64 ai2, .int .i64 ai3, .str as4], .sl 4 bl5, .int .u64 bi6, .int .u64 bi7, .int .i64 bi8, .sl 1 bl9, .sl 1 bl10, .int .i64 (IntKind.i64.wrap (bi11 + 1)), .int .i64 bi12, .sl 1 bl13, .sl 2 bl14, .sl 4 bl15, .int .i64 bi16, .int .i64 bi17] fun o1943 => uI .u64 o1943 fun n1945 r1944 => uI .u64 r1944 fun n1947 r1946 => uI .i64 r1946 fun n1949 r1948 => uL 1 r1948 fun l1951 r1950 => uL 1 r1950 fun l1953 r1952 => uI .i64 r1952 fun n1955 r1954 => uI .i64 r1954 fun n1957 r1956 => uL 1 r1956 fun l1959 r1958 => uL 2 r1958 fun l1961 r1960 => uL 4 r1960 fun l1963 r1962 => uI .i64 r1962 fun n1965 r1964 => uI .i64 r1964 fun n1967 r1966 => unNil r1966 (K [.bool false, .int .i64 0, .int .u64 n1945, .int .u64 n1947, .int .i64 n1949, .sl 1 l1951, .sl 1 l1953, .int .i64 n1955, .int .i64 n1957, .sl 1 l1959, .sl 2 l1961, .sl 4 l1963, .int .i64 n1965, .int .i64 n1967])) else (G 72 [.sl 4 bl5, .int .u64 bi6, .int .u64 bi7, .int .i64 bi8, .sl 1 bl9, .sl 1 bl10, .int .i64 (IntKind.i64.wrap (bi11 + 1)), .int .i64 bi12, .sl 1 bl13, .sl 2 bl14, .sl 4 bl15, .int .i64 bi16, .int .i64 bi17] fun o1968 => uI .i64 o1968 fun n1970 r1969 => uI .u64 r1969 fun n1972 r1971 => uI .u64 r1971 fun n1974 r1973 => uI .i64 r1973 fun n1976 r1975 => uL 1 r1975 fun l1978 r1977 => uL 1 r1977 fun l1980 r1979 => uI .i64 r1979 fun n1982 r1981 => uI .i64 r1981 fun n1984 r1983 => uL 1 r1983 fun l1986 r1985 => uL 2 r1985 fun l1988 r1987 => uL 4 r1987 fun l1990 r1989 => uI .i64 r1989 fun n1992 r1991 => uI .i64 r1991 fun n1994 r1993 => unNil r1993 (G 72 [.sl 4 bl5, .int .u64 n1972, .int .u64 n1974, .int .i64 n1976, .sl 1 l1978, .sl 1 l1980, .int .i64 n1982, .int .i64 n1984, .sl 1 l1986, .sl 2 l1988, .sl 4 l1990, .int .i64 n1992, .int .i64 n1994] fun o1995 => uI .i64 o1995 fun n1997 r1996 => uI .u64 r1996 fun n1999 r1998 => uI .u64 r1998 fun n2001 r2000 => uI .i64 r2000 fun n2003 r2002 => uL 1 r2002 fun l2005 r2004 => uL 1 r2004 fun l2007 r2006 => uI .i64 r2006 fun n2009 r2008 => uI .i64 r2008 fun n2011 r2010 => uL 1 r2010 fun l2013 r2012 => uL 2 r2012 fun l2015 r2014 => uL 4 r2014 fun l2017 r2016 => uI .i64 r2016 fun n2019 r2018 => uI .i64 r2018 fun n2021 r2020 => unNil r2020 (G 75 [.int .i64 ai1, .int .i64 n1997, .int .i64 n1970] fun o2022 => uB o2022 fun b2024 r2023 => uI .i64 r2023 fun n2026 r2025 => uI .i64 r2025 fun n2028 r2027 => unNil r2027 (bif b2024 then (K [.bool true, .int .i64 n2026, .int .u64 n1999, .int .u64 n2001, .int .i64 n2003, .sl 1 l2005, .sl 1 l2007, .int .i64 n2009, .int .i64 n2011, .sl 1 l2013, .sl 2 l2015, .sl 4 l2017, .int .i64 n2019, .int .i64 n2021]) else (G 67 [.int .i64 n2028, .sl 4 bl5, .int .u64 n1999, .int .u64 n2001, .int .i64 n2003, .sl 1 l2005, .sl 1 l2007, .int .i64 n2009, .int .i64 n2011, .sl 1 l2013, .sl 2 l2015, .sl 4 l2017, .int .i64 n2019, .int .i64 n2021] fun o2029 => uI .u64 o2029 fun n2031 r2030 => uI .u64 r2030 fun n2033 r2032 => uI .i64 r2032 fun n2035 r2034 => uL 1 r2034 fun l2037 r2036 => uL 1 r2036 fun l2039 r2038 => uI .i64 r2038 fun n2041 r2040 => uI .i64 r2040 fun n2043 r2042 => uL 1 r2042 fun l2045 r2044 => uL 2 r2044 fun l2047 r2046 => uL 4 r2046 fun l2049 r2048 => uI .i64 r2048 fun n2051 r2050 => uI .i64 r2050 fun n2053 r2052 => unNil r2052 (K [.bool false, .int .i64 0, .int .u64 n2031, .int .u64 n2033, .int .i64 n2035, .sl 1 l2037, .sl 1 l2039, .int .i64 n2041, .int .i64 n2043, .sl 1 l2045, .sl 2 l2047, .sl 4 l2049, .int .i64 n2051, .int .i64 n2053]))))))) else (bif (ai1 == 26) then (G 74 [.agg [.int .i64 ai1, .int .i64 ai2, .int .i64 ai3, .str as4], .sl 4 bl5, .int .u64 bi6, .int .u64 bi7, .int .i64 bi8, .sl 1 bl9, .sl 1 bl10, .int .i64 (IntKind.i64.wrap (bi11 + 1)), .int .i64 bi12, .sl 1 bl13, .sl 2 bl14, .sl 4 bl15, .int .i64 bi16, .int .i64 bi17] fun o2054 => uI .u64 o2054 fun n2056 r2055 => uI .u64 r2055 fun n2058 r2057 => uI .i64 r2057 fun n2060 r2059 => uL 1 r2059 fun l2062 r2061 => uL 1 r2061 fun l2064 r2063 => uI .i64 r2063 fun n2066 r2065 => uI .i64 r2065 fun n2068 r2067 => uL 1 r2067 fun l2070 r2069 => uL 2 r2069 fun l2072 r2071 => uL 4 r2071 fun l2074 r2073 => uI .i64 r2073 fun n2076 r2075 => uI .i64 r2075 fun n2078 r2077 => unNil r2077 (K [.bool false, .int .i64 0, .int .u64 n2056, .int .u64 n2058, .int .i64 n2060, .sl 1 l2062, .sl 1 l2064, .int .i64 n2066, .int .i64 n2068, .sl 1 l2070, .sl 2 l2072, .sl 4 l2074, .int .i64 n2076, .int .i64 n2078])) else (G 72 [.sl 4 bl5, .int .u64 bi6, .int .u64 bi7, .int .i64 bi8, .sl 1 bl9, .sl 1 bl10, .int .i64 (IntKind.i64.wrap (bi11 + 1)), .int .i64 bi12, .sl 1 bl13, .sl 2 bl14, .sl 4 bl15, .int .i64 bi16, .int .i64 bi17] fun o2079 => uI .i64 o2079 fun n2081 r2080 => uI .u64 r2080 fun n2083 r2082 => uI .u64 r2082 fun n2085 r2084 => uI .i64 r2084 fun n2087 r2086 => uL 1 r2086 fun l2089 r2088 => uL 1 r2088 fun l2091 r2090 => uI .i64 r2090 fun n2093 r2092 => uI .i64 r2092 fun n2095 r2094 => uL 1 r2094 fun l2097 r2096 => uL 2 r2096 fun l2099 r2098 => uL 4 r2098 fun l2101 r2100 => uI .i64 r2100 fun n2103 r2102 => uI .i64 r2102 fun n2105 r2104 => unNil r2104 (G 72 [.sl 4 bl5, .int .u64 n2083, .int .u64 n2085, .int .i64 n2087, .sl 1 l2089, .sl 1 l2091, .int .i64 n2093, .int .i64 n2095, .sl 1 l2097, .sl 2 l2099, .sl 4 l2101, .int .i64 n2103, .int .i64 n2105] fun o2106 => uI .i64 o2106 fun n2108 r2107 => uI .u64 r2107 fun n2110 r2109 => uI .u64 r2109 fun n2112 r2111 => uI .i64 r2111 fun n2114 r2113 => uL 1 r2113 fun l2116 r2115 => uL 1 r2115 fun l2118 r2117 => uI .i64 r2117 fun n2120 r2119 => uI .i64 r2119 fun n2122 r2121 => uL 1 r2121 fun l2124 r2123 => uL 2 r2123 fun l2126 r2125 => uL 4 r2125 fun l2128 r2127 => uI .i64 r2127 fun n2130 r2129 => uI .i64 r2129 fun n2132 r2131 => unNil r2131 (G 75 [.int .i64 ai1, .int .i64 n2108, .int .i64 n2081] fun o2133 => uB o2133 fun b2135 r2134 => uI .i64 r2134 fun n2137 r2136 => uI .i64 r2136 fun n2139 r2138 => unNil r2138 (bif b2135 then (K [.bool true, .int .i64 n2137, .int .u64 n2110, .int .u64 n2112, .int .i64 n2114, .sl 1 l2116, .sl 1 l2118, .int .i64 n2120, .int .i64 n2122, .sl 1 l2124, .sl 2 l2126, .sl 4 l2128, .int .i64 n2130, .int .i64 n2132]) else (G 67 [.int .i64 n2139, .sl 4 bl5, .int .u64 n2110, .int .u64 n2112, .int .i64 n2114, .sl 1 l2116, .sl 1 l2118, .int .i64 n2120, .int .i64 n2122, .sl 1 l2124, .sl 2 l2126, .sl 4 l2128, .int .i64 n2130, .int .i64 n2132] fun o2140 => uI .u64 o2140 fun n2142 r2141 => uI .u64 r2141 fun n2144 r2143 => uI .i64 r2143 fun n2146 r2145 => uL 1 r2145 fun l2148 r2147 => uL 1 r2147 fun l2150 r2149 => uI .i64 r2149 fun n2152 r2151 => uI .i64 r2151 fun n2154 r2153 => uL 1 r2153 fun l2156 r2155 => uL 2 r2155 fun l2158 r2157 => uL 4 r2157 fun l2160 r2159 => uI .i64 r2159 fun n2162 r2161 => uI .i64 r2161 fun n2164 r2163 => unNil r2163 (K [.bool false, .int .i64 0, .int .u64 n2142, .int .u64 n2144, .int .i64 n2146, .sl 1 l2148, .sl 1 l2150, .int .i64 n2152, .int .i64 n2154, .sl 1 l2156, .sl 2 l2158, .sl 4 l2160, .int .i64 n2162, .int .i64 n2164])))))))))))))))))))))
theorem f46_is {R : Type} (G : ORC R) (k : Nat) (K : List V → Option R) (ai1 ai2 ai3 : Int) (as4 : ByteArray) (bl5 : List V) (bi6 bi7 bi8 : Int) (bl9 bl10 : List V) (bi11 bi12 : Int) (bl13 bl14 bl15 : List V) (bi16 bi17 : Int) :
    callF (TAB.env 46) G (L46 G k) Try.f46 S46 [.agg [.int .i64 ai1, .int .i64 ai2, .int .i64 ai3, .str as4], .sl 4 bl5, .int .u64 bi6, .int .u64 bi7, .int .i64 bi8, .sl 1 bl9, .sl 1 bl10, .int .i64 bi11, .int .i64 bi12, .sl 1 bl13, .sl 2 bl14, .sl 4 bl15, .int .i64 bi16, .int .i64 bi17] K = f46 G k ai1 ai2 ai3 as4 bl5 bi6 bi7 bi8 bl9 bl10 bi11 bi12 bl13 bl14 bl15 bi16 bi17 K := by kernel_rfl
theorem lo46 : loopsOf (bodyOf Try.f46) = [] := by kernel_rfl
theorem la46 {R : Type} (G : ORC R) (k : Nat) : LoopsAre (TAB.env 46) G (L46 G k) (bodyOf Try.f46) :=
  loopsAre_of (by rw [lo46]; intro p hp; cases hp)
def g46 {R : Type} (G : ORC R) (k : Nat) (args : List V) (K : List V → Option R) : Option R := match args with
  | [.agg [.int .i64 ai1, .int .i64 ai2, .int .i64 ai3, .str as4], .sl 4 bl5, .int .u64 bi6, .int .u64 bi7, .int .i64 bi8, .sl 1 bl9, .sl 1 bl10, .int .i64 bi11, .int .i64 bi12, .sl 1 bl13, .sl 2 bl14, .sl 4 bl15, .int .i64 bi16, .int .i64 bi17] => f46 G k ai1 ai2 ai3 as4 bl5 bi6 bi7 bi8 bl9 bl10 bi11 bi12 bl13 bl14 bl15 bi16 bi17 K
  | _ => none
theorem s46 {R : Type} {G : ORC R} {k : Nat} (hG : Sound Try.prog TAB G) (args : List V) (K : List V → Option R) (r : R) (h : g46 G k args K = some r) : ∃ o, CallOK Try.prog TAB.env 46 args o ∧ K o = some r := by
  unfold g46 at h
  split at h
  · rw [← f46_is] at h
    exact callF_sound (f := 46) TAB_chk MO hG Try.func46 (sg := S46) (by kernel_rfl) (by kernel_rfl) (la46 G k) h
  · cases h
def L67 {R : Type} (_ : ORC R) (_ : Nat) : Nat → St → (Ex → St → Option R) → Option R := fun _ _ _ => none
def f67 {R : Type} (G : ORC R) (k : Nat) (ai1 : Int) (bl2 : List V) (bi3 bi4 bi5 : Int) (bl6 bl7 : List V) (bi8 bi9 : Int) (bl10 bl11 bl12 : List V) (bi13 bi14 : Int) (K : List V → Option R) : Option R :=
  (bif (decide (List.length bl6 + 1 ≤ 1073741824)) then (K [.int .u64 bi3, .int .u64 bi4, .int .i64 bi5, .sl 1 (bl6 ++ [.int .i64 ai1]), .sl 1 bl7, .int .i64 bi8, .int .i64 bi9, .sl 1 bl10, .sl 2 bl11, .sl 4 bl12, .int .i64 bi13, .int .i64 bi14]) else none)
theorem f67_is {R : Type} (G : ORC R) (k : Nat) (K : List V → Option R) (ai1 : Int) (bl2 : List V) (bi3 bi4 bi5 : Int) (bl6 bl7 : List V) (bi8 bi9 : Int) (bl10 bl11 bl12 : List V) (bi13 bi14 : Int) :
    callF (TAB.env 67) G (L67 G k) Try.f67 S67 [.int .i64 ai1, .sl 4 bl2, .int .u64 bi3, .int .u64 bi4, .int .i64 bi5, .sl 1 bl6, .sl 1 bl7, .int .i64 bi8, .int .i64 bi9, .sl 1 bl10, .sl 2 bl11, .sl 4 bl12, .int .i64 bi13, .int .i64 bi14] K = f67 G k ai1 bl2 bi3 bi4 bi5 bl6 bl7 bi8 bi9 bl10 bl11 bl12 bi13 bi14 K := by kernel_rfl
theorem lo67 : loopsOf (bodyOf Try.f67) = [] := by kernel_rfl
theorem la67 {R : Type} (G : ORC R) (k : Nat) : LoopsAre (TAB.env 67) G (L67 G k) (bodyOf Try.f67) :=
  loopsAre_of (by rw [lo67]; intro p hp; cases hp)
def g67 {R : Type} (G : ORC R) (k : Nat) (args : List V) (K : List V → Option R) : Option R := match args with
  | [.int .i64 ai1, .sl 4 bl2, .int .u64 bi3, .int .u64 bi4, .int .i64 bi5, .sl 1 bl6, .sl 1 bl7, .int .i64 bi8, .int .i64 bi9, .sl 1 bl10, .sl 2 bl11, .sl 4 bl12, .int .i64 bi13, .int .i64 bi14] => f67 G k ai1 bl2 bi3 bi4 bi5 bl6 bl7 bi8 bi9 bl10 bl11 bl12 bi13 bi14 K
  | _ => none
theorem s67 {R : Type} {G : ORC R} {k : Nat} (hG : Sound Try.prog TAB G) (args : List V) (K : List V → Option R) (r : R) (h : g67 G k args K = some r) : ∃ o, CallOK Try.prog TAB.env 67 args o ∧ K o = some r := by
  unfold g67 at h
  split at h
  · rw [← f67_is] at h
    exact callF_sound (f := 67) TAB_chk MO hG Try.func67 (sg := S67) (by kernel_rfl) (by kernel_rfl) (la67 G k) h
  · cases h
def L72 {R : Type} (_ : ORC R) (_ : Nat) : Nat → St → (Ex → St → Option R) → Option R := fun _ _ _ => none
def f72 {R : Type} (G : ORC R) (k : Nat) (bl1 : List V) (bi2 bi3 bi4 : Int) (bl5 bl6 : List V) (bi7 bi8 : Int) (bl9 bl10 bl11 : List V) (bi12 bi13 : Int) (K : List V → Option R) : Option R :=
  (bif ((decide (0 ≤ (IntKind.i64.wrap ((bl5.length : Int) - 1)))) && (decide ((IntKind.i64.wrap ((bl5.length : Int) - 1)) < (bl5.length : Int)))) then (nthK bl5 (Int.toNat (IntKind.i64.wrap ((bl5.length : Int) - 1))) fun e14 => aI .i64 e14 fun n15 => bif ((decide (0 ≤ (IntKind.i64.wrap ((bl5.length : Int) - 1)))) && (decide ((IntKind.i64.wrap ((bl5.length : Int) - 1)) ≤ (bl5.length : Int)))) then (K [.int .i64 n15, .int .u64 bi2, .int .u64 bi3, .int .i64 bi4, .sl 1 (List.take (Int.toNat (IntKind.i64.wrap ((bl5.length : Int) - 1))) bl5), .sl 1 bl6, .int .i64 bi7, .int .i64 bi8, .sl 1 bl9, .sl 2 bl10, .sl 4 bl11, .int .i64 bi12, .int .i64 bi13]) else none) else none)
theorem f72_is {R : Type} (G : ORC R) (k : Nat) (K : List V → Option R) (bl1 : List V) (bi2 bi3 bi4 : Int) (bl5 bl6 : List V) (bi7 bi8 : Int) (bl9 bl10 bl11 : List V) (bi12 bi13 : Int) :
    callF (TAB.env 72) G (L72 G k) Try.f72 S72 [.sl 4 bl1, .int .u64 bi2, .int .u64 bi3, .int .i64 bi4, .sl 1 bl5, .sl 1 bl6, .int .i64 bi7, .int .i64 bi8, .sl 1 bl9, .sl 2 bl10, .sl 4 bl11, .int .i64 bi12, .int .i64 bi13] K = f72 G k bl1 bi2 bi3 bi4 bl5 bl6 bi7 bi8 bl9 bl10 bl11 bi12 bi13 K := by kernel_rfl
theorem lo72 : loopsOf (bodyOf Try.f72) = [] := by kernel_rfl
theorem la72 {R : Type} (G : ORC R) (k : Nat) : LoopsAre (TAB.env 72) G (L72 G k) (bodyOf Try.f72) :=
  loopsAre_of (by rw [lo72]; intro p hp; cases hp)
def g72 {R : Type} (G : ORC R) (k : Nat) (args : List V) (K : List V → Option R) : Option R := match args with
  | [.sl 4 bl1, .int .u64 bi2, .int .u64 bi3, .int .i64 bi4, .sl 1 bl5, .sl 1 bl6, .int .i64 bi7, .int .i64 bi8, .sl 1 bl9, .sl 2 bl10, .sl 4 bl11, .int .i64 bi12, .int .i64 bi13] => f72 G k bl1 bi2 bi3 bi4 bl5 bl6 bi7 bi8 bl9 bl10 bl11 bi12 bi13 K
  | _ => none
theorem s72 {R : Type} {G : ORC R} {k : Nat} (hG : Sound Try.prog TAB G) (args : List V) (K : List V → Option R) (r : R) (h : g72 G k args K = some r) : ∃ o, CallOK Try.prog TAB.env 72 args o ∧ K o = some r := by
  unfold g72 at h
  split at h
  · rw [← f72_is] at h
    exact callF_sound (f := 72) TAB_chk MO hG Try.func72 (sg := S72) (by kernel_rfl) (by kernel_rfl) (la72 G k) h
  · cases h
def L73 {R : Type} (_ : ORC R) (_ : Nat) : Nat → St → (Ex → St → Option R) → Option R := fun _ _ _ => none
def f73 {R : Type} (G : ORC R) (k : Nat) (ai1 ai2 ai3 : Int) (as4 : ByteArray) (bl5 : List V) (bi6 bi7 bi8 : Int) (bl9 bl10 : List V) (bi11 bi12 : Int) (bl13 bl14 bl15 : List V) (bi16 bi17 : Int) (K : List V → Option R) : Option R :=
  (bif (ai1 != 22) then (G 72 [.sl 4 bl5, .int .u64 bi6, .int .u64 bi7, .int .i64 bi8, .sl 1 bl9, .sl 1 bl10, .int .i64 bi11, .int .i64 bi12, .sl 1 bl13, .sl 2 bl14, .sl 4 bl15, .int .i64 bi16, .int .i64 bi17] fun o18 => uI .i64 o18 fun n20 r19 => uI .u64 r19 fun n22 r21 => uI .u64 r21 fun n24 r23 => uI .i64 r23 fun n26 r25 => uL 1 r25 fun l28 r27 => uL 1 r27 fun l30 r29 => uI .i64 r29 fun n32 r31 => uI .i64 r31 fun n34 r33 => uL 1 r33 fun l36 r35 => uL 2 r35 fun l38 r37 => uL 4 r37 fun l40 r39 => uI .i64 r39 fun n42 r41 => uI .i64 r41 fun n44 r43 => unNil r43 (bif (ai1 == 19) then (bif (decide (List.length l38 + 1 ≤ 1073741824)) then (K [.bool false, .int .i64 0, .int .u64 n22, .int .u64 n24, .int .i64 n26, .sl 1 l28, .sl 1 l30, .int .i64 n32, .int .i64 n34, .sl 1 l36, .sl 2 (l38 ++ [.agg [.str as4, .int .i64 n20]]), .sl 4 l40, .int .i64 n42, .int .i64 n44]) else none) else (bif (ai1 == 20) then (G 91 [.int .i64 1, .int .i64 ai2, .agg [.str as4, .int .i64 n20], .sl 4 bl5, .int .u64 n22, .int .u64 n24, .int .i64 n26, .sl 1 l28, .sl 1 l30, .int .i64 n32, .int .i64 n34, .sl 1 l36, .sl 2 l38, .sl 4 l40, .int .i64 n42, .int .i64 n44] fun o45 => uI .u64 o45 fun n47 r46 => uI .u64 r46 fun n49 r48 => uI .i64 r48 fun n51 r50 => uL 1 r50 fun l53 r52 => uL 1 r52 fun l55 r54 => uI .i64 r54 fun n57 r56 => uI .i64 r56 fun n59 r58 => uL 1 r58 fun l61 r60 => uL 2 r60 fun l63 r62 => uL 4 r62 fun l65 r64 => uI .i64 r64 fun n67 r66 => uI .i64 r66 fun n69 r68 => unNil r68 (K [.bool false, .int .i64 0, .int .u64 n47, .int .u64 n49, .int .i64 n51, .sl 1 l53, .sl 1 l55, .int .i64 n57, .int .i64 n59, .sl 1 l61, .sl 2 l63, .sl 4 l65, .int .i64 n67, .int .i64 n69])) else (bif (ai1 == 21) then (bif (decide (n20 < 1)) then (K [.bool true, .int .i64 1, .int .u64 n22, .int .u64 n24, .int .i64 n26, .sl 1 l28, .sl 1 l30, .int .i64 n32, .int .i64 n34, .sl 1 l36, .sl 2 l38, .sl 4 l40, .int .i64 n42, .int .i64 n44]) else (bif (decide (n20 > 65536)) then (K [.bool true, .int .i64 1, .int .u64 n22, .int .u64 n24, .int .i64 n26, .sl 1 l28, .sl 1 l30, .int .i64 n32, .int .i64 n34, .sl 1 l36, .sl 2 l38, .sl 4 l40, .int .i64 n42, .int .i64 n44]) else (G 91 [.int .i64 2, .int .i64 ai2, .agg [.str ⟨#[]⟩, .int .i64 n20], .sl 4 bl5, .int .u64 n22, .int .u64 n24, .int .i64 n26, .sl 1 l28, .sl 1 l30, .int .i64 n32, .int .i64 n34, .sl 1 l36, .sl 2 l38, .sl 4 l40, .int .i64 n42, .int .i64 n44] fun o70 => uI .u64 o70 fun n72 r71 => uI .u64 r71 fun n74 r73 => uI .i64 r73 fun n76 r75 => uL 1 r75 fun l78 r77 => uL 1 r77 fun l80 r79 => uI .i64 r79 fun n82 r81 => uI .i64 r81 fun n84 r83 => uL 1 r83 fun l86 r85 => uL 2 r85 fun l88 r87 => uL 4 r87 fun l90 r89 => uI .i64 r89 fun n92 r91 => uI .i64 r91 fun n94 r93 => unNil r93 (K [.bool false, .int .i64 0, .int .u64 n72, .int .u64 n74, .int .i64 n76, .sl 1 l78, .sl 1 l80, .int .i64 n82, .int .i64 n84, .sl 1 l86, .sl 2 l88, .sl 4 l90, .int .i64 n92, .int .i64 n94])))) else (G 91 [.int .i64 3, .int .i64 ai2, .agg [.str ⟨#[]⟩, .int .i64 0], .sl 4 bl5, .int .u64 n22, .int .u64 n24, .int .i64 n26, .sl 1 l28, .sl 1 l30, .int .i64 n32, .int .i64 n34, .sl 1 l36, .sl 2 l38, .sl 4 l40, .int .i64 n42, .int .i64 n44] fun o95 => uI .u64 o95 fun n97 r96 => uI .u64 r96 fun n99 r98 => uI .i64 r98 fun n101 r100 => uL 1 r100 fun l103 r102 => uL 1 r102 fun l105 r104 => uI .i64 r104 fun n107 r106 => uI .i64 r106 fun n109 r108 => uL 1 r108 fun l111 r110 => uL 2 r110 fun l113 r112 => uL 4 r112 fun l115 r114 => uI .i64 r114 fun n117 r116 => uI .i64 r116 fun n119 r118 => unNil r118 (K [.bool false, .int .i64 0, .int .u64 n97, .int .u64 n99, .int .i64 n101, .sl 1 l103, .sl 1 l105, .int .i64 n107, .int .i64 n109, .sl 1 l111, .sl 2 l113, .sl 4 l115, .int .i64 n117, .int .i64 n119])))))) else (bif (ai1 == 19) then (bif (decide (List.length bl14 + 1 ≤ 1073741824)) then (K [.bool false, .int .i64 0, .int .u64 bi6, .int .u64 bi7, .int .i64 bi8, .sl 1 bl9, .sl 1 bl10, .int .i64 bi11, .int .i64 bi12, .sl 1 bl13, .sl 2 (bl14 ++ [.agg [.str as4, .int .i64 0]]), .sl 4 bl15, .int .i64 bi16, .int .i64 bi17]) else none) else (bif (ai1 == 20) then (G 91 [.int .i64 1, .int .i64 ai2, .agg [.str as4, .int .i64 0], .sl 4 bl5, .int .u64 bi6, .int .u64 bi7, .int .i64 bi8, .sl 1 bl9, .sl 1 bl10, .int .i64 bi11, .int .i64 bi12, .sl 1 bl13, .sl 2 bl14, .sl 4 bl15, .int .i64 bi16, .int .i64 bi17] fun o120 => uI .u64 o120 fun n122 r121 => uI .u64 r121 fun n124 r123 => uI .i64 r123 fun n126 r125 => uL 1 r125 fun l128 r127 => uL 1 r127 fun l130 r129 => uI .i64 r129 fun n132 r131 => uI .i64 r131 fun n134 r133 => uL 1 r133 fun l136 r135 => uL 2 r135 fun l138 r137 => uL 4 r137 fun l140 r139 => uI .i64 r139 fun n142 r141 => uI .i64 r141 fun n144 r143 => unNil r143 (K [.bool false, .int .i64 0, .int .u64 n122, .int .u64 n124, .int .i64 n126, .sl 1 l128, .sl 1 l130, .int .i64 n132, .int .i64 n134, .sl 1 l136, .sl 2 l138, .sl 4 l140, .int .i64 n142, .int .i64 n144])) else (bif (ai1 == 21) then (K [.bool true, .int .i64 1, .int .u64 bi6, .int .u64 bi7, .int .i64 bi8, .sl 1 bl9, .sl 1 bl10, .int .i64 bi11, .int .i64 bi12, .sl 1 bl13, .sl 2 bl14, .sl 4 bl15, .int .i64 bi16, .int .i64 bi17]) else (G 91 [.int .i64 3, .int .i64 ai2, .agg [.str ⟨#[]⟩, .int .i64 0], .sl 4 bl5, .int .u64 bi6, .int .u64 bi7, .int .i64 bi8, .sl 1 bl9, .sl 1 bl10, .int .i64 bi11, .int .i64 bi12, .sl 1 bl13, .sl 2 bl14, .sl 4 bl15, .int .i64 bi16, .int .i64 bi17] fun o145 => uI .u64 o145 fun n147 r146 => uI .u64 r146 fun n149 r148 => uI .i64 r148 fun n151 r150 => uL 1 r150 fun l153 r152 => uL 1 r152 fun l155 r154 => uI .i64 r154 fun n157 r156 => uI .i64 r156 fun n159 r158 => uL 1 r158 fun l161 r160 => uL 2 r160 fun l163 r162 => uL 4 r162 fun l165 r164 => uI .i64 r164 fun n167 r166 => uI .i64 r166 fun n169 r168 => unNil r168 (K [.bool false, .int .i64 0, .int .u64 n147, .int .u64 n149, .int .i64 n151, .sl 1 l153, .sl 1 l155, .int .i64 n157, .int .i64 n159, .sl 1 l161, .sl 2 l163, .sl 4 l165, .int .i64 n167, .int .i64 n169]))))))
theorem f73_is {R : Type} (G : ORC R) (k : Nat) (K : List V → Option R) (ai1 ai2 ai3 : Int) (as4 : ByteArray) (bl5 : List V) (bi6 bi7 bi8 : Int) (bl9 bl10 : List V) (bi11 bi12 : Int) (bl13 bl14 bl15 : List V) (bi16 bi17 : Int) :
    callF (TAB.env 73) G (L73 G k) Try.f73 S73 [.agg [.int .i64 ai1, .int .i64 ai2, .int .i64 ai3, .str as4], .sl 4 bl5, .int .u64 bi6, .int .u64 bi7, .int .i64 bi8, .sl 1 bl9, .sl 1 bl10, .int .i64 bi11, .int .i64 bi12, .sl 1 bl13, .sl 2 bl14, .sl 4 bl15, .int .i64 bi16, .int .i64 bi17] K = f73 G k ai1 ai2 ai3 as4 bl5 bi6 bi7 bi8 bl9 bl10 bi11 bi12 bl13 bl14 bl15 bi16 bi17 K := by kernel_rfl
theorem lo73 : loopsOf (bodyOf Try.f73) = [] := by kernel_rfl
theorem la73 {R : Type} (G : ORC R) (k : Nat) : LoopsAre (TAB.env 73) G (L73 G k) (bodyOf Try.f73) :=
  loopsAre_of (by rw [lo73]; intro p hp; cases hp)
def g73 {R : Type} (G : ORC R) (k : Nat) (args : List V) (K : List V → Option R) : Option R := match args with
  | [.agg [.int .i64 ai1, .int .i64 ai2, .int .i64 ai3, .str as4], .sl 4 bl5, .int .u64 bi6, .int .u64 bi7, .int .i64 bi8, .sl 1 bl9, .sl 1 bl10, .int .i64 bi11, .int .i64 bi12, .sl 1 bl13, .sl 2 bl14, .sl 4 bl15, .int .i64 bi16, .int .i64 bi17] => f73 G k ai1 ai2 ai3 as4 bl5 bi6 bi7 bi8 bl9 bl10 bi11 bi12 bl13 bl14 bl15 bi16 bi17 K
  | _ => none
theorem s73 {R : Type} {G : ORC R} {k : Nat} (hG : Sound Try.prog TAB G) (args : List V) (K : List V → Option R) (r : R) (h : g73 G k args K = some r) : ∃ o, CallOK Try.prog TAB.env 73 args o ∧ K o = some r := by
  unfold g73 at h
  split at h
  · rw [← f73_is] at h
    exact callF_sound (f := 73) TAB_chk MO hG Try.func73 (sg := S73) (by kernel_rfl) (by kernel_rfl) (la73 G k) h
  · cases h
def L74 {R : Type} (_ : ORC R) (_ : Nat) : Nat → St → (Ex → St → Option R) → Option R := fun _ _ _ => none
def f74 {R : Type} (G : ORC R) (k : Nat) (ai1 ai2 ai3 : Int) (as4 : ByteArray) (bl5 : List V) (bi6 bi7 bi8 : Int) (bl9 bl10 : List V) (bi11 bi12 : Int) (bl13 bl14 bl15 : List V) (bi16 bi17 : Int) (K : List V → Option R) : Option R :=
  (bif (ai1 == 23) then (K [.int .u64 bi6, .int .u64 bi7, .int .i64 bi8, .sl 1 bl9, .sl 1 bl10, .int .i64 ai2, .int .i64 bi12, .sl 1 bl13, .sl 2 bl14, .sl 4 bl15, .int .i64 bi16, .int .i64 bi17]) else (bif (ai1 == 24) then (G 72 [.sl 4 bl5, .int .u64 bi6, .int .u64 bi7, .int .i64 bi8, .sl 1 bl9, .sl 1 bl10, .int .i64 bi11, .int .i64 bi12, .sl 1 bl13, .sl 2 bl14, .sl 4 bl15, .int .i64 bi16, .int .i64 bi17] fun o18 => uI .i64 o18 fun n20 r19 => uI .u64 r19 fun n22 r21 => uI .u64 r21 fun n24 r23 => uI .i64 r23 fun n26 r25 => uL 1 r25 fun l28 r27 => uL 1 r27 fun l30 r29 => uI .i64 r29 fun n32 r31 => uI .i64 r31 fun n34 r33 => uL 1 r33 fun l36 r35 => uL 2 r35 fun l38 r37 => uL 4 r37 fun l40 r39 => uI .i64 r39 fun n42 r41 => uI .i64 r41 fun n44 r43 => unNil r43 (bif (n20 == 0) then (K [.int .u64 n22, .int .u64 n24, .int .i64 n26, .sl 1 l28, .sl 1 l30, .int .i64 ai2, .int .i64 n34, .sl 1 l36, .sl 2 l38, .sl 4 l40, .int .i64 n42, .int .i64 n44]) else (K [.int .u64 n22, .int .u64 n24, .int .i64 n26, .sl 1 l28, .sl 1 l30, .int .i64 n32, .int .i64 n34, .sl 1 l36, .sl 2 l38, .sl 4 l40, .int .i64 n42, .int .i64 n44]))) else (bif (ai1 == 25) then (bif (decide (List.length bl10 + 1 ≤ 1073741824)) then (K [.int .u64 bi6, .int .u64 bi7, .int .i64 bi8, .sl 1 bl9, .sl 1 (bl10 ++ [.int .i64 ai3]), .int .i64 bi11, .int .i64 bi12, .sl 1 bl13, .sl 2 bl14, .sl 4 bl15, .int .i64 bi16, .int .i64 bi17]) else none) else (bif ((decide (0 ≤ (IntKind.i64.wrap ((bl10.length : Int) - 1)))) && (decide ((IntKind.i64.wrap ((bl10.length : Int) - 1)) < (bl10.length : Int)))) then (nthK bl10 (Int.toNat (IntKind.i64.wrap ((bl10.length : Int) - 1))) fun e45 => aI .i64 e45 fun n46 => bif ((decide (0 ≤ (IntKind.i64.wrap ((bl10.length : Int) - 1)))) && (decide ((IntKind.i64.wrap ((bl10.length : Int) - 1)) < (bl10.length : Int)))) then (nthK bl10 (Int.toNat (IntKind.i64.wrap ((bl10.length : Int) - 1))) fun e47 => bif ((decide (0 ≤ (IntKind.i64.wrap ((bl10.length : Int) - 1)))) && (decide ((IntKind.i64.wrap ((bl10.length : Int) - 1)) < ((List.length (List.set bl10 (Int.toNat (IntKind.i64.wrap ((bl10.length : Int) - 1))) (.int .i64 (IntKind.i64.wrap (n46 - 1)))) : Nat) : Int)))) then (nthK (List.set bl10 (Int.toNat (IntKind.i64.wrap ((bl10.length : Int) - 1))) (.int .i64 (IntKind.i64.wrap (n46 - 1)))) (Int.toNat (IntKind.i64.wrap ((bl10.length : Int) - 1))) fun e48 => aI .i64 e48 fun n49 => bif (decide (n49 > 0)) then (K [.int .u64 bi6, .int .u64 bi7, .int .i64 bi8, .sl 1 bl9, .sl 1 (List.set bl10 (Int.toNat (IntKind.i64.wrap ((bl10.length : Int) - 1))) (.int .i64 (IntKind.i64.wrap (n46 - 1)))), .int .i64 (IntKind.i64.wrap (ai2 + 1)), .int .i64 bi12, .sl 1 bl13, .sl 2 bl14, .sl 4 bl15, .int .i64 bi16, .int .i64 bi17]) else (bif ((decide (0 ≤ (IntKind.i64.wrap ((bl10.length : Int) - 1)))) && (decide ((IntKind.i64.wrap ((bl10.length : Int) - 1)) ≤ ((List.length (List.set bl10 (Int.toNat (IntKind.i64.wrap ((bl10.length : Int) - 1))) (.int .i64 (IntKind.i64.wrap (n46 - 1)))) : Nat) : Int)))) then (K [.int .u64 bi6, .int .u64 bi7, .int .i64 bi8, .sl 1 bl9, .sl 1 (List.take (Int.toNat (IntKind.i64.wrap ((bl10.length : Int) - 1))) (List.set bl10 (Int.toNat (IntKind.i64.wrap ((bl10.length : Int) - 1))) (.int .i64 (IntKind.i64.wrap (n46 - 1))))), .int .i64 bi11, .int .i64 bi12, .sl 1 bl13, .sl 2 bl14, .sl 4 bl15, .int .i64 bi16, .int .i64 bi17]) else none)) else none) else none) else none))))
theorem f74_is {R : Type} (G : ORC R) (k : Nat) (K : List V → Option R) (ai1 ai2 ai3 : Int) (as4 : ByteArray) (bl5 : List V) (bi6 bi7 bi8 : Int) (bl9 bl10 : List V) (bi11 bi12 : Int) (bl13 bl14 bl15 : List V) (bi16 bi17 : Int) :
    callF (TAB.env 74) G (L74 G k) Try.f74 S74 [.agg [.int .i64 ai1, .int .i64 ai2, .int .i64 ai3, .str as4], .sl 4 bl5, .int .u64 bi6, .int .u64 bi7, .int .i64 bi8, .sl 1 bl9, .sl 1 bl10, .int .i64 bi11, .int .i64 bi12, .sl 1 bl13, .sl 2 bl14, .sl 4 bl15, .int .i64 bi16, .int .i64 bi17] K = f74 G k ai1 ai2 ai3 as4 bl5 bi6 bi7 bi8 bl9 bl10 bi11 bi12 bl13 bl14 bl15 bi16 bi17 K := by kernel_rfl
theorem lo74 : loopsOf (bodyOf Try.f74) = [] := by kernel_rfl
theorem la74 {R : Type} (G : ORC R) (k : Nat) : LoopsAre (TAB.env 74) G (L74 G k) (bodyOf Try.f74) :=
  loopsAre_of (by rw [lo74]; intro p hp; cases hp)
def g74 {R : Type} (G : ORC R) (k : Nat) (args : List V) (K : List V → Option R) : Option R := match args with
  | [.agg [.int .i64 ai1, .int .i64 ai2, .int .i64 ai3, .str as4], .sl 4 bl5, .int .u64 bi6, .int .u64 bi7, .int .i64 bi8, .sl 1 bl9, .sl 1 bl10, .int .i64 bi11, .int .i64 bi12, .sl 1 bl13, .sl 2 bl14, .sl 4 bl15, .int .i64 bi16, .int .i64 bi17] => f74 G k ai1 ai2 ai3 as4 bl5 bi6 bi7 bi8 bl9 bl10 bi11 bi12 bl13 bl14 bl15 bi16 bi17 K
  | _ => none
theorem s74 {R : Type} {G : ORC R} {k : Nat} (hG : Sound Try.prog TAB G) (args : List V) (K : List V → Option R) (r : R) (h : g74 G k args K = some r) : ∃ o, CallOK Try.prog TAB.env 74 args o ∧ K o = some r := by
  unfold g74 at h
  split at h
  · rw [← f74_is] at h
    exact callF_sound (f := 74) TAB_chk MO hG Try.func74 (sg := S74) (by kernel_rfl) (by kernel_rfl) (la74 G k) h
  · cases h
def L91 {R : Type} (_ : ORC R) (_ : Nat) : Nat → St → (Ex → St → Option R) → Option R := fun _ _ _ => none
def f91 {R : Type} (G : ORC R) (k : Nat) (ai1 ai2 : Int) (as3 : ByteArray) (ai4 : Int) (bl5 : List V) (bi6 bi7 bi8 : Int) (bl9 bl10 : List V) (bi11 bi12 : Int) (bl13 bl14 bl15 : List V) (bi16 bi17 : Int) (K : List V → Option R) : Option R :=
  (bif (decide (List.length bl15 + 1 ≤ 1073741824)) then (K [.int .u64 bi6, .int .u64 bi7, .int .i64 bi8, .sl 1 bl9, .sl 1 bl10, .int .i64 bi11, .int .i64 bi12, .sl 1 bl13, .sl 2 bl14, .sl 4 (bl15 ++ [.agg [.int .i64 ai1, .int .i64 ai2, .str as3, .int .i64 ai4]]), .int .i64 bi16, .int .i64 bi17]) else none)
theorem f91_is {R : Type} (G : ORC R) (k : Nat) (K : List V → Option R) (ai1 ai2 : Int) (as3 : ByteArray) (ai4 : Int) (bl5 : List V) (bi6 bi7 bi8 : Int) (bl9 bl10 : List V) (bi11 bi12 : Int) (bl13 bl14 bl15 : List V) (bi16 bi17 : Int) :
    callF (TAB.env 91) G (L91 G k) Try.f91 S91 [.int .i64 ai1, .int .i64 ai2, .agg [.str as3, .int .i64 ai4], .sl 4 bl5, .int .u64 bi6, .int .u64 bi7, .int .i64 bi8, .sl 1 bl9, .sl 1 bl10, .int .i64 bi11, .int .i64 bi12, .sl 1 bl13, .sl 2 bl14, .sl 4 bl15, .int .i64 bi16, .int .i64 bi17] K = f91 G k ai1 ai2 as3 ai4 bl5 bi6 bi7 bi8 bl9 bl10 bi11 bi12 bl13 bl14 bl15 bi16 bi17 K := by kernel_rfl
theorem lo91 : loopsOf (bodyOf Try.f91) = [] := by kernel_rfl
theorem la91 {R : Type} (G : ORC R) (k : Nat) : LoopsAre (TAB.env 91) G (L91 G k) (bodyOf Try.f91) :=
  loopsAre_of (by rw [lo91]; intro p hp; cases hp)
def g91 {R : Type} (G : ORC R) (k : Nat) (args : List V) (K : List V → Option R) : Option R := match args with
  | [.int .i64 ai1, .int .i64 ai2, .agg [.str as3, .int .i64 ai4], .sl 4 bl5, .int .u64 bi6, .int .u64 bi7, .int .i64 bi8, .sl 1 bl9, .sl 1 bl10, .int .i64 bi11, .int .i64 bi12, .sl 1 bl13, .sl 2 bl14, .sl 4 bl15, .int .i64 bi16, .int .i64 bi17] => f91 G k ai1 ai2 as3 ai4 bl5 bi6 bi7 bi8 bl9 bl10 bi11 bi12 bl13 bl14 bl15 bi16 bi17 K
  | _ => none
theorem s91 {R : Type} {G : ORC R} {k : Nat} (hG : Sound Try.prog TAB G) (args : List V) (K : List V → Option R) (r : R) (h : g91 G k args K = some r) : ∃ o, CallOK Try.prog TAB.env 91 args o ∧ K o = some r := by
  unfold g91 at h
  split at h
  · rw [← f91_is] at h
    exact callF_sound (f := 91) TAB_chk MO hG Try.func91 (sg := S91) (by kernel_rfl) (by kernel_rfl) (la91 G k) h
  · cases h
def L75 {R : Type} (_ : ORC R) (_ : Nat) : Nat → St → (Ex → St → Option R) → Option R := fun _ _ _ => none
def f75 {R : Type} (G : ORC R) (k : Nat) (ai1 ai2 ai3 : Int) (K : List V → Option R) : Option R :=
  (bif (ai1 == 7) then (G 92 [.int .i64 ai2, .int .i64 ai3] fun o4 => uI .i64 o4 fun n6 r5 => uI .i64 r5 fun n8 r7 => unNil r7 (G 70 [.int .i64 n6, .int .i64 n8] fun o9 => uB o9 fun b11 r10 => uI .i64 r10 fun n13 r12 => uI .i64 r12 fun n15 r14 => unNil r14 (bif b11 then (K [.bool true, .int .i64 n13, .int .i64 0]) else (K [.bool false, .int .i64 0, .int .i64 n15])))) else (bif (ai1 == 8) then (G 93 [.int .i64 ai2, .int .i64 ai3] fun o16 => uI .i64 o16 fun n18 r17 => uI .i64 r17 fun n20 r19 => unNil r19 (G 70 [.int .i64 n18, .int .i64 n20] fun o21 => uB o21 fun b23 r22 => uI .i64 r22 fun n25 r24 => uI .i64 r24 fun n27 r26 => unNil r26 (bif b23 then (K [.bool true, .int .i64 n25, .int .i64 0]) else (K [.bool false, .int .i64 0, .int .i64 n27])))) else (bif (ai1 == 9) then (G 94 [.int .i64 ai2, .int .i64 ai3] fun o28 => uI .i64 o28 fun n30 r29 => uI .i64 r29 fun n32 r31 => unNil r31 (G 70 [.int .i64 n30, .int .i64 n32] fun o33 => uB o33 fun b35 r34 => uI .i64 r34 fun n37 r36 => uI .i64 r36 fun n39 r38 => unNil r38 (bif b35 then (K [.bool true, .int .i64 n37, .int .i64 0]) else (K [.bool false, .int .i64 0, .int .i64 n39])))) else (bif (ai1 == 10) then (G 95 [.int .i64 ai2, .int .i64 ai3] fun o40 => uI .i64 o40 fun n42 r41 => uI .i64 r41 fun n44 r43 => unNil r43 (G 70 [.int .i64 n42, .int .i64 n44] fun o45 => uB o45 fun b47 r46 => uI .i64 r46 fun n49 r48 => uI .i64 r48 fun n51 r50 => unNil r50 (bif b47 then (K [.bool true, .int .i64 n49, .int .i64 0]) else (K [.bool false, .int .i64 0, .int .i64 n51])))) else (bif (ai1 == 11) then (G 90 [.int .i64 ai2, .int .i64 ai3] fun o52 => uI .i64 o52 fun n54 r53 => uI .i64 r53 fun n56 r55 => unNil r55 (G 70 [.int .i64 n54, .int .i64 n56] fun o57 => uB o57 fun b59 r58 => uI .i64 r58 fun n61 r60 => uI .i64 r60 fun n63 r62 => unNil r62 (bif b59 then (K [.bool true, .int .i64 n61, .int .i64 0]) else (K [.bool false, .int .i64 0, .int .i64 n63])))) else (bif (ai1 == 12) then (G 68 [.bool (decide (ai2 < ai3))] fun o64 => uI .i64 o64 fun n66 r65 => unNil r65 (K [.bool false, .int .i64 0, .int .i64 n66])) else (bif (ai1 == 13) then (G 68 [.bool (decide (ai2 ≤ ai3))] fun o67 => uI .i64 o67 fun n69 r68 => unNil r68 (K [.bool false, .int .i64 0, .int .i64 n69])) else (bif (ai1 == 14) then (G 68 [.bool (decide (ai2 > ai3))] fun o70 => uI .i64 o70 fun n72 r71 => unNil r71 (K [.bool false, .int .i64 0, .int .i64 n72])) else (bif (ai1 == 15) then (G 68 [.bool (decide (ai2 ≥ ai3))] fun o73 => uI .i64 o73 fun n75 r74 => unNil r74 (K [.bool false, .int .i64 0, .int .i64 n75])) else (bif (ai1 == 16) then (G 68 [.bool (ai2 == ai3)] fun o76 => uI .i64 o76 fun n78 r77 => unNil r77 (K [.bool false, .int .i64 0, .int .i64 n78])) else (G 68 [.bool (ai2 != ai3)] fun o79 => uI .i64 o79 fun n81 r80 => unNil r80 (K [.bool false, .int .i64 0, .int .i64 n81]))))))))))))
theorem f75_is {R : Type} (G : ORC R) (k : Nat) (K : List V → Option R) (ai1 ai2 ai3 : Int) :
    callF (TAB.env 75) G (L75 G k) Try.f75 S75 [.int .i64 ai1, .int .i64 ai2, .int .i64 ai3] K = f75 G k ai1 ai2 ai3 K := by kernel_rfl
theorem lo75 : loopsOf (bodyOf Try.f75) = [] := by kernel_rfl
theorem la75 {R : Type} (G : ORC R) (k : Nat) : LoopsAre (TAB.env 75) G (L75 G k) (bodyOf Try.f75) :=
  loopsAre_of (by rw [lo75]; intro p hp; cases hp)
def g75 {R : Type} (G : ORC R) (k : Nat) (args : List V) (K : List V → Option R) : Option R := match args with
  | [.int .i64 ai1, .int .i64 ai2, .int .i64 ai3] => f75 G k ai1 ai2 ai3 K
  | _ => none
theorem s75 {R : Type} {G : ORC R} {k : Nat} (hG : Sound Try.prog TAB G) (args : List V) (K : List V → Option R) (r : R) (h : g75 G k args K = some r) : ∃ o, CallOK Try.prog TAB.env 75 args o ∧ K o = some r := by
  unfold g75 at h
  split at h
  · rw [← f75_is] at h
    exact callF_sound (f := 75) TAB_chk MO hG Try.func75 (sg := S75) (by kernel_rfl) (by kernel_rfl) (la75 G k) h
  · cases h
def L70 {R : Type} (_ : ORC R) (_ : Nat) : Nat → St → (Ex → St → Option R) → Option R := fun _ _ _ => none
def f70 {R : Type} (G : ORC R) (k : Nat) (ai1 ai2 : Int) (K : List V → Option R) : Option R :=
  (bif (ai2 != 0) then (K [.bool true, .int .i64 ai2, .int .i64 0]) else (K [.bool false, .int .i64 0, .int .i64 ai1]))
theorem f70_is {R : Type} (G : ORC R) (k : Nat) (K : List V → Option R) (ai1 ai2 : Int) :
    callF (TAB.env 70) G (L70 G k) Try.f70 S70 [.int .i64 ai1, .int .i64 ai2] K = f70 G k ai1 ai2 K := by kernel_rfl
theorem lo70 : loopsOf (bodyOf Try.f70) = [] := by kernel_rfl
theorem la70 {R : Type} (G : ORC R) (k : Nat) : LoopsAre (TAB.env 70) G (L70 G k) (bodyOf Try.f70) :=
  loopsAre_of (by rw [lo70]; intro p hp; cases hp)
def g70 {R : Type} (G : ORC R) (k : Nat) (args : List V) (K : List V → Option R) : Option R := match args with
  | [.int .i64 ai1, .int .i64 ai2] => f70 G k ai1 ai2 K
  | _ => none
theorem s70 {R : Type} {G : ORC R} {k : Nat} (hG : Sound Try.prog TAB G) (args : List V) (K : List V → Option R) (r : R) (h : g70 G k args K = some r) : ∃ o, CallOK Try.prog TAB.env 70 args o ∧ K o = some r := by
  unfold g70 at h
  split at h
  · rw [← f70_is] at h
    exact callF_sound (f := 70) TAB_chk MO hG Try.func70 (sg := S70) (by kernel_rfl) (by kernel_rfl) (la70 G k) h
  · cases h
def L68 {R : Type} (_ : ORC R) (_ : Nat) : Nat → St → (Ex → St → Option R) → Option R := fun _ _ _ => none
def f68 {R : Type} (G : ORC R) (k : Nat) (ab1 : Bool) (K : List V → Option R) : Option R :=
  (bif ab1 then (K [.int .i64 1]) else (K [.int .i64 0]))
theorem f68_is {R : Type} (G : ORC R) (k : Nat) (K : List V → Option R) (ab1 : Bool) :
    callF (TAB.env 68) G (L68 G k) Try.f68 S68 [.bool ab1] K = f68 G k ab1 K := by kernel_rfl
theorem lo68 : loopsOf (bodyOf Try.f68) = [] := by kernel_rfl
theorem la68 {R : Type} (G : ORC R) (k : Nat) : LoopsAre (TAB.env 68) G (L68 G k) (bodyOf Try.f68) :=
  loopsAre_of (by rw [lo68]; intro p hp; cases hp)
def g68 {R : Type} (G : ORC R) (k : Nat) (args : List V) (K : List V → Option R) : Option R := match args with
  | [.bool ab1] => f68 G k ab1 K
  | _ => none
theorem s68 {R : Type} {G : ORC R} {k : Nat} (hG : Sound Try.prog TAB G) (args : List V) (K : List V → Option R) (r : R) (h : g68 G k args K = some r) : ∃ o, CallOK Try.prog TAB.env 68 args o ∧ K o = some r := by
  unfold g68 at h
  split at h
  · rw [← f68_is] at h
    exact callF_sound (f := 68) TAB_chk MO hG Try.func68 (sg := S68) (by kernel_rfl) (by kernel_rfl) (la68 G k) h
  · cases h
def L89 {R : Type} (_ : ORC R) (_ : Nat) : Nat → St → (Ex → St → Option R) → Option R := fun _ _ _ => none
def f89 {R : Type} (G : ORC R) (k : Nat) (ai1 : Int) (K : List V → Option R) : Option R :=
  (bif (decide (ai1 ≥ 0)) then (K [.bool (decide (ai1 < 128))]) else (K [.bool false]))
theorem f89_is {R : Type} (G : ORC R) (k : Nat) (K : List V → Option R) (ai1 : Int) :
    callF (TAB.env 89) G (L89 G k) Try.f89 S89 [.int .i64 ai1] K = f89 G k ai1 K := by kernel_rfl
theorem lo89 : loopsOf (bodyOf Try.f89) = [] := by kernel_rfl
theorem la89 {R : Type} (G : ORC R) (k : Nat) : LoopsAre (TAB.env 89) G (L89 G k) (bodyOf Try.f89) :=
  loopsAre_of (by rw [lo89]; intro p hp; cases hp)
def g89 {R : Type} (G : ORC R) (k : Nat) (args : List V) (K : List V → Option R) : Option R := match args with
  | [.int .i64 ai1] => f89 G k ai1 K
  | _ => none
theorem s89 {R : Type} {G : ORC R} {k : Nat} (hG : Sound Try.prog TAB G) (args : List V) (K : List V → Option R) (r : R) (h : g89 G k args K = some r) : ∃ o, CallOK Try.prog TAB.env 89 args o ∧ K o = some r := by
  unfold g89 at h
  split at h
  · rw [← f89_is] at h
    exact callF_sound (f := 89) TAB_chk MO hG Try.func89 (sg := S89) (by kernel_rfl) (by kernel_rfl) (la89 G k) h
  · cases h
def L66 {R : Type} (_ : ORC R) (_ : Nat) : Nat → St → (Ex → St → Option R) → Option R := fun _ _ _ => none
def f66 {R : Type} (G : ORC R) (k : Nat) (ai1 ai2 ai3 : Int) (K : List V → Option R) : Option R :=
  (G 89 [.int .i64 ai3] fun o4 => uB o4 fun b6 r5 => unNil r5 (bif b6 then (bif ((decide (0 ≤ (IntKind.i64.wrap (Int.tdiv ai3 64)))) && (decide ((IntKind.i64.wrap (Int.tdiv ai3 64)) < 2))) then (nthK [.int .u64 ai1, .int .u64 ai2] (Int.toNat (IntKind.i64.wrap (Int.tdiv ai3 64))) fun e7 => bif (decide (0 ≤ (Int.tmod ai3 64))) then (aI .u64 e7 fun n8 => bif ((decide (0 ≤ (IntKind.i64.wrap (Int.tdiv ai3 64)))) && (decide ((IntKind.i64.wrap (Int.tdiv ai3 64)) < 2))) then (aI .u64 (bif (0 == (Int.toNat (IntKind.i64.wrap (Int.tdiv ai3 64)))) then (.int .u64 (bits .or .u64 n8 (IntKind.u64.wrap (1 * 2 ^ (min (Int.toNat (Int.tmod ai3 64)) IntKind.u64.bits))))) else (.int .u64 ai1)) fun n9 => aI .u64 (bif (1 == (Int.toNat (IntKind.i64.wrap (Int.tdiv ai3 64)))) then (.int .u64 (bits .or .u64 n8 (IntKind.u64.wrap (1 * 2 ^ (min (Int.toNat (Int.tmod ai3 64)) IntKind.u64.bits))))) else (.int .u64 ai2)) fun n10 => K [.agg [.int .u64 n9, .int .u64 n10]]) else none) else none) else none) else (K [.agg [.int .u64 ai1, .int .u64 ai2]])))
theorem f66_is {R : Type} (G : ORC R) (k : Nat) (K : List V → Option R) (ai1 ai2 ai3 : Int) :
    callF (TAB.env 66) G (L66 G k) Try.f66 S66 [.agg [.int .u64 ai1, .int .u64 ai2], .int .i64 ai3] K = f66 G k ai1 ai2 ai3 K := by kernel_rfl
theorem lo66 : loopsOf (bodyOf Try.f66) = [] := by kernel_rfl
theorem la66 {R : Type} (G : ORC R) (k : Nat) : LoopsAre (TAB.env 66) G (L66 G k) (bodyOf Try.f66) :=
  loopsAre_of (by rw [lo66]; intro p hp; cases hp)
def g66 {R : Type} (G : ORC R) (k : Nat) (args : List V) (K : List V → Option R) : Option R := match args with
  | [.agg [.int .u64 ai1, .int .u64 ai2], .int .i64 ai3] => f66 G k ai1 ai2 ai3 K
  | _ => none
theorem s66 {R : Type} {G : ORC R} {k : Nat} (hG : Sound Try.prog TAB G) (args : List V) (K : List V → Option R) (r : R) (h : g66 G k args K = some r) : ∃ o, CallOK Try.prog TAB.env 66 args o ∧ K o = some r := by
  unfold g66 at h
  split at h
  · rw [← f66_is] at h
    exact callF_sound (f := 66) TAB_chk MO hG Try.func66 (sg := S66) (by kernel_rfl) (by kernel_rfl) (la66 G k) h
  · cases h
def L69 {R : Type} (_ : ORC R) (_ : Nat) : Nat → St → (Ex → St → Option R) → Option R := fun _ _ _ => none
def f69 {R : Type} (G : ORC R) (k : Nat) (ai1 ai2 ai3 : Int) (K : List V → Option R) : Option R :=
  (G 66 [.agg [.int .u64 ai1, .int .u64 ai2], .int .i64 ai3] fun o4 => uA o4 fun l6 r5 => uI .u64 l6 fun n8 r7 => uI .u64 r7 fun n10 r9 => unNil r9 (unNil r5 (bif ((n8 == ai1) && ((n10 == ai2) && true)) then (G 89 [.int .i64 ai3] fun o11 => uB o11 fun b13 r12 => unNil r12 (K [.bool b13])) else (K [.bool false]))))
theorem f69_is {R : Type} (G : ORC R) (k : Nat) (K : List V → Option R) (ai1 ai2 ai3 : Int) :
    callF (TAB.env 69) G (L69 G k) Try.f69 S69 [.agg [.int .u64 ai1, .int .u64 ai2], .int .i64 ai3] K = f69 G k ai1 ai2 ai3 K := by kernel_rfl
theorem lo69 : loopsOf (bodyOf Try.f69) = [] := by kernel_rfl
theorem la69 {R : Type} (G : ORC R) (k : Nat) : LoopsAre (TAB.env 69) G (L69 G k) (bodyOf Try.f69) :=
  loopsAre_of (by rw [lo69]; intro p hp; cases hp)
def g69 {R : Type} (G : ORC R) (k : Nat) (args : List V) (K : List V → Option R) : Option R := match args with
  | [.agg [.int .u64 ai1, .int .u64 ai2], .int .i64 ai3] => f69 G k ai1 ai2 ai3 K
  | _ => none
theorem s69 {R : Type} {G : ORC R} {k : Nat} (hG : Sound Try.prog TAB G) (args : List V) (K : List V → Option R) (r : R) (h : g69 G k args K = some r) : ∃ o, CallOK Try.prog TAB.env 69 args o ∧ K o = some r := by
  unfold g69 at h
  split at h
  · rw [← f69_is] at h
    exact callF_sound (f := 69) TAB_chk MO hG Try.func69 (sg := S69) (by kernel_rfl) (by kernel_rfl) (la69 G k) h
  · cases h
def P44_0h : Pat := { tmps := unds [.undef, .undef, .stat (.one (.ptr 2 0) .pt), .stat (.one (.ptr 3 0) .pt), .undef, .undef, .var (.sl 1) .ro, .var (.int .i64) .pr, .var (.int .i64) .pr] 8 [], boxes := nons [none, none, some [.var (.int .u64) .pr false, .var (.int .u64) .pr false], some [.var (.int .u64) .pr false, .var (.int .u64) .pr false]] 13 [] }
def P44_0x : Pat := { tmps := unds [.undef, .undef, .stat (.one (.ptr 2 0) .pt), .stat (.one (.ptr 3 0) .pt)] 13 [], boxes := nons [none, none, some [.var (.int .u64) .pr false, .var (.int .u64) .pr false], some [.var (.int .u64) .pr false, .var (.int .u64) .pr false]] 13 [] }
def b44_0 {R : Type} (G : ORC R) (k : Nat) (X : List V → Int → Int → Int → Int → Int → Int → Option R) (Ko : Int → Int → Int → Int → Option R) (xl2 : List V) (xi3 xi4 : Int) (xi5 xi6 : Int) (xi7 xi8 : Int) : Option R :=
  (bif (decide (xi4 < xi3)) then (bif ((decide (0 ≤ xi4)) && (decide (xi4 < (xl2.length : Int)))) then (nthK xl2 (Int.toNat xi4) fun e9 => aI .i64 e9 fun n10 => G 66 [.agg [.int .u64 xi7, .int .u64 xi8], .int .i64 n10] fun o11 => uA o11 fun l13 r12 => uI .u64 l13 fun n15 r14 => uI .u64 r14 fun n17 r16 => unNil r16 (unNil r12 (X xl2 xi3 (IntKind.i64.wrap (xi4 + 1)) xi5 xi6 n15 n17))) else none) else (Ko xi5 xi6 xi7 xi8))
def l44_0g {R : Type} (G : ORC R) (k : Nat) (Ko : Int → Int → Int → Int → Option R) : Nat → List V → Int → Int → Int → Int → Int → Int → Option R
  | 0 => fun _ _ _ _ _ _ _ => none
  | j + 1 => b44_0 G k (l44_0g G k Ko j) Ko
def l44_0 {R : Type} (G : ORC R) (k : Nat) (xl2 : List V) (xi3 xi4 : Int) (xi5 xi6 : Int) (xi7 xi8 : Int) (Ko : Int → Int → Int → Int → Option R) : Option R := l44_0g G k Ko k xl2 xi3 xi4 xi5 xi6 xi7 xi8
def rd44_0 {R : Type} (G : ORC R) (k : Nat) (K : Ex → St → Option R) (j : Nat) (vs : List V) : Option R := match vs with
  | [.sl 1 xl2, .int .i64 xi3, .int .i64 xi4, .int .u64 xi5, .int .u64 xi6, .int .u64 xi7, .int .u64 xi8] => l44_0g G k (fun yi22 yi23 yi24 yi25 => K .normal (P44_0x.inst [.int .u64 yi22, .int .u64 yi23, .int .u64 yi24, .int .u64 yi25])) j xl2 xi3 xi4 xi5 xi6 xi7 xi8
  | _ => none
def L44 {R : Type} (G : ORC R) (k : Nat) : Nat → St → (Ex → St → Option R) → Option R
  | 0, S, K => P44_0h.mat S fun vs => rd44_0 G k K k vs
  | _, _, _ => none
def f44 {R : Type} (G : ORC R) (k : Nat) (al1 : List V) (K : List V → Option R) : Option R :=
  (l44_0 G k al1 (al1.length : Int) 0 0 0 0 0 (fun yi18 yi19 yi20 yi21 => K [.agg [.int .u64 yi20, .int .u64 yi21]]))
noncomputable def D44_0 : LoopD := { id := 0, body := loopAt 0 (bodyOf Try.f44), head := P44_0h, out := P44_0x, ret := default }
theorem l44_0_is {R : Type} (G : ORC R) (k : Nat) (X : List V → Option R) (K : Ex → St → Option R) (xl2 : List V) (xi3 xi4 : Int) (xi5 xi6 : Int) (xi7 xi8 : Int) :
    roundOf (TAB.env 44) G (L44 G k) D44_0 X K [.sl 1 xl2, .int .i64 xi3, .int .i64 xi4, .int .u64 xi5, .int .u64 xi6, .int .u64 xi7, .int .u64 xi8] = b44_0 G k (fun xl2 xi3 xi4 xi5 xi6 xi7 xi8 => X [.sl 1 xl2, .int .i64 xi3, .int .i64 xi4, .int .u64 xi5, .int .u64 xi6, .int .u64 xi7, .int .u64 xi8]) (fun yi22 yi23 yi24 yi25 => K .normal (P44_0x.inst [.int .u64 yi22, .int .u64 yi23, .int .u64 yi24, .int .u64 yi25])) xl2 xi3 xi4 xi5 xi6 xi7 xi8 := by kernel_rfl
theorem f44_is {R : Type} (G : ORC R) (k : Nat) (K : List V → Option R) (al1 : List V) :
    callF (TAB.env 44) G (L44 G k) Try.f44 S44 [.sl 1 al1] K = f44 G k al1 K := by kernel_rfl
theorem li44_0 {R : Type} (G : ORC R) (k : Nat) : LoopIs (TAB.env 44) G (L44 G k) 0 (loopAt 0 (bodyOf Try.f44)) :=
  ⟨D44_0, fun j vs K => rd44_0 G k K j vs, k, rfl, rfl, by kernel_rfl, by kernel_rfl, by kernel_rfl, (fun vs K => by unfold rd44_0; dsimp only; split <;> rfl),
    (fun j vs K r h => by
      unfold rd44_0 at h
      dsimp only at h
      split at h
      · rw [l44_0_is]; exact h
      · cases h), (fun S K r h => h)⟩
theorem lo44 : loopsOf (bodyOf Try.f44) = [(0, loopAt 0 (bodyOf Try.f44))] := by kernel_rfl
theorem la44 {R : Type} (G : ORC R) (k : Nat) : LoopsAre (TAB.env 44) G (L44 G k) (bodyOf Try.f44) :=
  loopsAre_of (by rw [lo44]; intro p hp; simp only [List.mem_cons, List.not_mem_nil, or_false] at hp; subst hp; exact li44_0 G k)
def g44 {R : Type} (G : ORC R) (k : Nat) (args : List V) (K : List V → Option R) : Option R := match args with
  | [.sl 1 al1] => f44 G k al1 K
  | _ => none
theorem s44 {R : Type} {G : ORC R} {k : Nat} (hG : Sound Try.prog TAB G) (args : List V) (K : List V → Option R) (r : R) (h : g44 G k args K = some r) : ∃ o, CallOK Try.prog TAB.env 44 args o ∧ K o = some r := by
  unfold g44 at h
  split at h
  · rw [← f44_is] at h
    exact callF_sound (f := 44) TAB_chk MO hG Try.func44 (sg := S44) (by kernel_rfl) (by kernel_rfl) (la44 G k) h
  · cases h
set_option linter.unusedSimpArgs false
theorem row_set {w : World} {β off : Nat} {c : Array Value} {ty : TypeId} {n : Int} (h : w.heap[β]? = some (.cells c ty (0, 0))) (ho : off < c.size) : w.setCell ⟨β, off, none⟩ (.int .i64 n) = w.setRow β (rec1 c off n) := by
  rw [setCell_eq_setRow w β off c ty (0, 0) _ h]
  congr 1
  apply Array.ext'
  unfold rec1
  simp [List.set_eq_take_append_cons_drop, ho]
theorem row_get {w : World} {β : Nat} {c c' : Array Value} {ty : TypeId} (h : w.heap[β]? = some (.cells c ty (0, 0))) : (w.setRow β c').heap[β]? = some (.cells c' ty (0, 0)) := by
  simp only [World.setRow, Array.getElem?_modify, if_true, h, Option.map_some]
theorem rec1_size {c : Array Value} {off : Nat} {n : Int} (ho : off < c.size) : (rec1 c off n).size = c.size := by
  unfold rec1; simp; omega
theorem cell_at {w : World} {β off : Nat} {c : Array Value} {ty : TypeId} (h : w.heap[β]? = some (.cells c ty (0, 0))) (ho : off < c.size) : w.cell? ⟨β, off, none⟩ = some c[off] ∧ w.frozen? ⟨β, off, none⟩ = false := by
  constructor
  · simp [World.cell?, h, ho]
  · simp [World.frozen?, h]
theorem catch_idle (β : Nat) (w : World) : CallsD Try.prog 45 #[.pointer (some ⟨β, 0, none⟩)] .returning w fun e u' w' => (∃ v, e = .returned v) ∧ u' = .returning ∧ w' = w := by
  refine callsD_of_wpS Try.func45 rfl fun c₀ cs hu => ?_
  apply wpS_seq
  apply wpS_region
  simp [wpOpsS, go_sem, recoverD, hu, Exit.thenS]
  apply wpS_seq
  apply wpS_region
  simp [wpOpsS, go_sem, Exit.thenS]
  refine wpS_cond (t := false) (by simp [Act.eval, Array.replicate]) ?_
  simp only [Bool.false_eq_true, if_false]
  refine wpS_of_wp (wp_skip ?_)
  cases c₀
  simp_all [bodyPostS, results]
theorem under_pan : Try.prog.underlying 67 = some (.int .i64) := by kernel_rfl
theorem assert_pan {n : Int} {w : World} {x : TypeId} : (Instr.typeAssert (.iface 67 (.int .i64 n)) x 67 true).run Try.prog w = .ok (.tuple #[.int .i64 n, .bool true]) w := by
  simp [Instr.typeAssert, run_underlying under_pan]
theorem catch_pan (β : Nat) (c : Array Value) (ty : TypeId) (w : World) (n : Int) (hw : w.heap[β]? = some (.cells c ty (0, 0))) (hc : c.size = 6) :
    CallsD Try.prog 45 #[.pointer (some ⟨β, 0, none⟩)] (.panicking [{ v := .iface 67 (.int .i64 n), recovered := false }]) w fun e u' w' => (∃ v, e = .returned v) ∧ u' = .panicking [{ v := .iface 67 (.int .i64 n), recovered := true }] ∧ w' = recW w β c n := by
  obtain ⟨c0, z0⟩ := cell_at (off := 0) hw (by omega)
  have e0 := row_set (off := 0) (n := 0) hw (by omega)
  have hw1 := row_get (c' := rec1 c 0 0) hw
  have s1 : (rec1 c 0 0).size = 6 := by rw [rec1_size (by omega), hc]
  obtain ⟨c5, z5⟩ := cell_at (off := 5) hw1 (by omega)
  have e5 := row_set (off := 5) (n := n) hw1 (by omega)
  refine callsD_of_wpS Try.func45 rfl fun c₀ cs hu => ?_
  apply wpS_seq
  apply wpS_region
  simp [wpOpsS, go_sem, recoverD, hu, Exit.thenS]
  apply wpS_seq
  apply wpS_region
  simp [wpOpsS, go_sem, Exit.thenS]
  refine wpS_cond (t := true) (by simp [Act.eval, Array.replicate]) ?_
  simp only [if_true]
  apply wpS_seq
  apply wpS_region
  simp [wpOpsS, go_sem, Exit.thenS, c0, z0, e0]
  apply wpS_seq
  apply wpS_region
  simp [wpOpsS, go_sem, Exit.thenS, assert_pan]
  apply wpS_seq
  apply wpS_region
  simp [wpOpsS, go_sem, Exit.thenS, c5, z5, e5]
  apply wpS_seq
  apply wpS_region
  simp [wpOpsS, go_sem, Exit.thenS]
  refine wpS_cond (t := false) (by simp [Act.eval, Act.put, Array.replicate]) ?_
  simp only [Bool.false_eq_true, if_false]
  refine wpS_of_wp (wp_skip ?_)
  cases c₀
  simp_all [bodyPostS, results, recW, Act.put]
theorem catch45 : Catches Try.prog 45 67 := ⟨⟨Try.f45, Try.func45, rfl, rfl⟩, catch_pan, catch_idle⟩
def P31_0h : Pat := { tmps := unds [.var (.sl 4) .ro, .undef, .undef, .var (.int .i64) .pr, .undef, .undef, .undef, .undef, .stat (.one (.ptr 8 0) .pt), .stat (.one (.ptr 20 0) .pt)] 67 [], boxes := nons [] 8 (nons [some [.var (.int .i64) .pr false, .var (.sl 1) (.own false) false, .var (.sl 2) (.own true) false, .var (.sl 4) (.own true) false, .var (.int .i64) .pr false, .var (.int .i64) .pr false]] 11 (nons [some [.var (.sl 4) .ro false, .stat ⟨(.ptr 8 0), .pt, 0, false⟩, .var (.int .u64) .pr false, .var (.int .u64) .pr false, .var (.int .i64) .pr false, .var (.sl 1) (.own true) false, .var (.sl 1) (.own true) false, .var (.int .i64) .pr false]] 56 [])) }
def P31_0x : Pat := { tmps := unds [] 8 (unds [.stat (.one (.ptr 8 0) .pt), .stat (.one (.ptr 20 0) .pt)] 67 []), boxes := nons [] 8 (nons [some [.var (.int .i64) .pr false, .var (.sl 1) (.own false) false, .var (.sl 2) (.own true) false, .var (.sl 4) (.own true) false, .var (.int .i64) .pr false, .var (.int .i64) .pr false]] 11 (nons [some [.var (.sl 4) .ro false, .stat ⟨(.ptr 8 0), .pt, 0, false⟩, .var (.int .u64) .pr false, .var (.int .u64) .pr false, .var (.int .i64) .pr false, .var (.sl 1) (.own true) false, .var (.sl 1) (.own true) false, .var (.int .i64) .pr false]] 56 [])) }
def P31_0r : Pat := { tmps := unds [] 8 (unds [.stat (.one (.ptr 8 0) .pt)] 68 []), boxes := nons [] 8 (nons [some [.var (.int .i64) .pr false, .var (.sl 1) (.own false) false, .var (.sl 2) (.own true) false, .var (.sl 4) (.own true) false, .var (.int .i64) .pr false, .var (.int .i64) .pr false]] 68 []) }
def b31_0 {R : Type} (G : ORC R) (k : Nat) (X : List V → Int → Int → List V → List V → List V → Int → Int → List V → Int → Int → Int → List V → List V → Int → Option R) (Ko : Int → List V → List V → List V → Int → Int → List V → Int → Int → Int → List V → List V → Int → Option R) (Kp : Int → Int → List V → List V → List V → Int → Int → Option R) (xl17 : List V) (xi18 xi19 : Int) (xl20 xl21 xl22 : List V) (xi23 xi24 : Int) (xl25 : List V) (xi26 xi27 xi28 : Int) (xl29 xl30 : List V) (xi31 : Int) : Option R :=
  (bif (decide (xi31 ≥ 0)) then (bif (decide (xi31 < (xl17.length : Int))) then (bif (decide (xi23 ≥ xi18)) then (Kp 4 xi19 xl20 xl21 xl22 xi23 xi24) else (bif ((decide (0 ≤ xi31)) && (decide (xi31 < (xl17.length : Int)))) then (nthK xl17 (Int.toNat xi31) fun e32 => V.asAgg e32 fun l33 => G 46 [.agg l33, .sl 4 xl25, .int .u64 xi26, .int .u64 xi27, .int .i64 xi28, .sl 1 xl29, .sl 1 xl30, .int .i64 xi31, .int .i64 xi19, .sl 1 xl20, .sl 2 xl21, .sl 4 xl22, .int .i64 (IntKind.i64.wrap (xi23 + 1)), .int .i64 xi24] fun o34 => uB o34 fun b36 r35 => uI .i64 r35 fun n38 r37 => uI .u64 r37 fun n40 r39 => uI .u64 r39 fun n42 r41 => uI .i64 r41 fun n44 r43 => uL 1 r43 fun l46 r45 => uL 1 r45 fun l48 r47 => uI .i64 r47 fun n50 r49 => uI .i64 r49 fun n52 r51 => uL 1 r51 fun l54 r53 => uL 2 r53 fun l56 r55 => uL 4 r55 fun l58 r57 => uI .i64 r57 fun n60 r59 => uI .i64 r59 fun n62 r61 => unNil r61 (bif b36 then (Kp n38 n52 l54 l56 l58 n60 n62) else (X xl17 xi18 n52 l54 l56 l58 n60 n62 xl25 n40 n42 n44 l46 l48 n50))) else none)) else (Ko xi19 xl20 xl21 xl22 xi23 xi24 xl25 xi26 xi27 xi28 xl29 xl30 xi31)) else (Ko xi19 xl20 xl21 xl22 xi23 xi24 xl25 xi26 xi27 xi28 xl29 xl30 xi31))
def l31_0g {R : Type} (G : ORC R) (k : Nat) (Ko : Int → List V → List V → List V → Int → Int → List V → Int → Int → Int → List V → List V → Int → Option R) (Kp : Int → Int → List V → List V → List V → Int → Int → Option R) : Nat → List V → Int → Int → List V → List V → List V → Int → Int → List V → Int → Int → Int → List V → List V → Int → Option R
  | 0 => fun _ _ _ _ _ _ _ _ _ _ _ _ _ _ _ => none
  | j + 1 => b31_0 G k (l31_0g G k Ko Kp j) Ko Kp
def l31_0 {R : Type} (G : ORC R) (k : Nat) (xl17 : List V) (xi18 xi19 : Int) (xl20 xl21 xl22 : List V) (xi23 xi24 : Int) (xl25 : List V) (xi26 xi27 xi28 : Int) (xl29 xl30 : List V) (xi31 : Int) (Ko : Int → List V → List V → List V → Int → Int → List V → Int → Int → Int → List V → List V → Int → Option R) (Kp : Int → Int → List V → List V → List V → Int → Int → Option R) : Option R := l31_0g G k Ko Kp k xl17 xi18 xi19 xl20 xl21 xl22 xi23 xi24 xl25 xi26 xi27 xi28 xl29 xl30 xi31
def rd31_0 {R : Type} (G : ORC R) (k : Nat) (K : Ex → St → Option R) (j : Nat) (vs : List V) : Option R := match vs with
  | [.sl 4 xl17, .int .i64 xi18, .int .i64 xi19, .sl 1 xl20, .sl 2 xl21, .sl 4 xl22, .int .i64 xi23, .int .i64 xi24, .sl 4 xl25, .int .u64 xi26, .int .u64 xi27, .int .i64 xi28, .sl 1 xl29, .sl 1 xl30, .int .i64 xi31] => l31_0g G k (fun yi85 yl86 yl87 yl88 yi89 yi90 yl91 yi92 yi93 yi94 yl95 yl96 yi97 => K .normal (P31_0x.inst [.int .i64 yi85, .sl 1 yl86, .sl 2 yl87, .sl 4 yl88, .int .i64 yi89, .int .i64 yi90, .sl 4 yl91, .int .u64 yi92, .int .u64 yi93, .int .i64 yi94, .sl 1 yl95, .sl 1 yl96, .int .i64 yi97])) (fun yi104 yi98 yl99 yl100 yl101 yi102 yi103 => K (.pan yi104) (P31_0r.inst [.int .i64 yi98, .sl 1 yl99, .sl 2 yl100, .sl 4 yl101, .int .i64 yi102, .int .i64 yi103])) j xl17 xi18 xi19 xl20 xl21 xl22 xi23 xi24 xl25 xi26 xi27 xi28 xl29 xl30 xi31
  | _ => none
def L31 {R : Type} (G : ORC R) (k : Nat) : Nat → St → (Ex → St → Option R) → Option R
  | 0, S, K => P31_0h.mat S fun vs => rd31_0 G k K k vs
  | _, _, _ => none
def f31 {R : Type} (G : ORC R) (k : Nat) (al1 al2 : List V) (al3 al4 : List V) (ai5 ai6 : Int) (K : List V → Option R) : Option R :=
  (G 43 [.sl 1 al3] fun o7 => uL 1 o7 fun l9 r8 => unNil r8 (G 44 [.sl 1 al2] fun o10 => uA o10 fun l12 r11 => uI .u64 l12 fun n14 r13 => uI .u64 r13 fun n16 r15 => unNil r15 (unNil r11 (l31_0 G k al1 (bif (decide (0 < (bif (decide (1048576 < ai6)) then 1048576 else ai6))) then (bif (decide (1048576 < ai6)) then 1048576 else ai6) else 0) 0 l9 [] [] 0 0 al1 n14 n16 ai5 [] [] 0 (fun yi63 yl64 yl65 yl66 yi67 yi68 yl69 yi70 yi71 yi72 yl73 yl74 yi75 => bif (decide ((yl73.length : Int) > 0)) then (bif ((decide (0 ≤ (IntKind.i64.wrap ((yl73.length : Int) - 1)))) && (decide ((IntKind.i64.wrap ((yl73.length : Int) - 1)) < (yl73.length : Int)))) then (nthK yl73 (Int.toNat (IntKind.i64.wrap ((yl73.length : Int) - 1))) fun e76 => aI .i64 e76 fun n77 => K [.agg [.int .i64 n77, .sl 1 yl64, .sl 2 yl65, .sl 4 yl66, .int .i64 yi67, .int .i64 yi68]]) else none) else (K [.agg [.int .i64 yi63, .sl 1 yl64, .sl 2 yl65, .sl 4 yl66, .int .i64 yi67, .int .i64 yi68]])) (fun yi84 yi78 yl79 yl80 yl81 yi82 yi83 => K [.agg [.int .i64 0, .sl 1 yl79, .sl 2 yl80, .sl 4 yl81, .int .i64 yi82, .int .i64 yi84]])))))
noncomputable def D31_0 : LoopD := { id := 0, body := loopAt 0 (bodyOf Try.f31), head := P31_0h, out := P31_0x, ret := P31_0r }
theorem l31_0_is {R : Type} (G : ORC R) (k : Nat) (X : List V → Option R) (K : Ex → St → Option R) (xl17 : List V) (xi18 xi19 : Int) (xl20 xl21 xl22 : List V) (xi23 xi24 : Int) (xl25 : List V) (xi26 xi27 xi28 : Int) (xl29 xl30 : List V) (xi31 : Int) :
    roundOf (TAB.env 31) G (L31 G k) D31_0 X K [.sl 4 xl17, .int .i64 xi18, .int .i64 xi19, .sl 1 xl20, .sl 2 xl21, .sl 4 xl22, .int .i64 xi23, .int .i64 xi24, .sl 4 xl25, .int .u64 xi26, .int .u64 xi27, .int .i64 xi28, .sl 1 xl29, .sl 1 xl30, .int .i64 xi31] = b31_0 G k (fun xl17 xi18 xi19 xl20 xl21 xl22 xi23 xi24 xl25 xi26 xi27 xi28 xl29 xl30 xi31 => X [.sl 4 xl17, .int .i64 xi18, .int .i64 xi19, .sl 1 xl20, .sl 2 xl21, .sl 4 xl22, .int .i64 xi23, .int .i64 xi24, .sl 4 xl25, .int .u64 xi26, .int .u64 xi27, .int .i64 xi28, .sl 1 xl29, .sl 1 xl30, .int .i64 xi31]) (fun yi85 yl86 yl87 yl88 yi89 yi90 yl91 yi92 yi93 yi94 yl95 yl96 yi97 => K .normal (P31_0x.inst [.int .i64 yi85, .sl 1 yl86, .sl 2 yl87, .sl 4 yl88, .int .i64 yi89, .int .i64 yi90, .sl 4 yl91, .int .u64 yi92, .int .u64 yi93, .int .i64 yi94, .sl 1 yl95, .sl 1 yl96, .int .i64 yi97])) (fun yi104 yi98 yl99 yl100 yl101 yi102 yi103 => K (.pan yi104) (P31_0r.inst [.int .i64 yi98, .sl 1 yl99, .sl 2 yl100, .sl 4 yl101, .int .i64 yi102, .int .i64 yi103])) xl17 xi18 xi19 xl20 xl21 xl22 xi23 xi24 xl25 xi26 xi27 xi28 xl29 xl30 xi31 := by kernel_rfl
theorem f31_is {R : Type} (G : ORC R) (k : Nat) (K : List V → Option R) (al1 al2 : List V) (al3 al4 : List V) (ai5 ai6 : Int) :
    callD (TAB.env 31) G (L31 G k) 45 Try.f31 S31 [.sl 4 al1, .agg [.sl 1 al2, .sl 1 al3, .sl 1 al4], .int .i64 ai5, .int .i64 ai6] K = f31 G k al1 al2 al3 al4 ai5 ai6 K := by kernel_rfl
theorem li31_0 {R : Type} (G : ORC R) (k : Nat) : LoopIs (TAB.env 31) G (L31 G k) 0 (loopAt 0 (bodyOf Try.f31)) :=
  ⟨D31_0, fun j vs K => rd31_0 G k K j vs, k, rfl, rfl, by kernel_rfl, by kernel_rfl, by kernel_rfl, (fun vs K => by unfold rd31_0; dsimp only; split <;> rfl),
    (fun j vs K r h => by
      unfold rd31_0 at h
      dsimp only at h
      split at h
      · rw [l31_0_is]; exact h
      · cases h), (fun S K r h => h)⟩
theorem lo31 : loopsOf (bodyOf Try.f31) = [(0, loopAt 0 (bodyOf Try.f31))] := by kernel_rfl
theorem la31 {R : Type} (G : ORC R) (k : Nat) : LoopsAre (TAB.env 31) G (L31 G k) (bodyOf Try.f31) :=
  loopsAre_of (by rw [lo31]; intro p hp; simp only [List.mem_cons, List.not_mem_nil, or_false] at hp; subst hp; exact li31_0 G k)
def g31 {R : Type} (G : ORC R) (k : Nat) (args : List V) (K : List V → Option R) : Option R := match args with
  | [.sl 4 al1, .agg [.sl 1 al2, .sl 1 al3, .sl 1 al4], .int .i64 ai5, .int .i64 ai6] => f31 G k al1 al2 al3 al4 ai5 ai6 K
  | _ => none
theorem s31 {R : Type} {G : ORC R} {k : Nat} (hG : Sound Try.prog TAB G) (args : List V) (K : List V → Option R) (r : R) (h : g31 G k args K = some r) : ∃ o, CallOK Try.prog TAB.env 31 args o ∧ K o = some r := by
  unfold g31 at h
  split at h
  · rw [← f31_is] at h
    exact callD_sound catch45 (f := 31) TAB_chk MO hG Try.func31 (sg := S31) (by kernel_rfl) (by kernel_rfl) (la31 G k) h
  · cases h
def g43 {R : Type} (G : ORC R) (k : Nat) (args : List V) (K : List V → Option R) : Option R := match args with
  | [.sl 1 l] => bif decide (l.length ≤ 1000000) then K [.sl 1 l] else none
  | _ => none
theorem cloneN {l : List V} (h : l.length ≤ 1000000) : ∃ q, callN (TAB.env 43) Try.f43 S43 [.sl 1 l] = some ([.sl 1 l], q) ∧ ∀ o1, q = some o1 → o1 = [.sl 1 l] := by
  cases l with
  | nil => exact ⟨some [.sl 1 []], by kernel_rfl, fun o1 h => by cases h; rfl⟩
  | cons v r =>
    refine ⟨none, ?_, fun o1 h => by cases h⟩
    have e : callN (TAB.env 43) Try.f43 S43 [.sl 1 (v :: r)] = (bif decide (([] : List V).length + (v :: r).length ≤ 1073741824) then some [V.sl 1 ([] ++ (v :: r))] else none).bind fun o0 => some (o0, none) := by kernel_rfl
    rw [e, decide_eq_true (by simp at h ⊢; omega)]
    rfl
theorem s43 {R : Type} {G : ORC R} {k : Nat} (hG : Sound Try.prog TAB G) (args : List V) (K : List V → Option R) (r : R) (h : g43 G k args K = some r) : ∃ o, CallOK Try.prog TAB.env 43 args o ∧ K o = some r := by
  unfold g43 at h
  split at h
  · rename_i l
    by_cases hl : l.length ≤ 1000000
    · rw [decide_eq_true hl] at h
      obtain ⟨q, e, hq⟩ := cloneN hl
      exact ⟨_, callN_sound (f := 43) TAB_chk MO Try.func43 (sg := S43) (by kernel_rfl) (by kernel_rfl) (fun {R} => loopsAre_of (by rw [show loopsOf (bodyOf Try.f43) = [] from by kernel_rfl]; intro p hp; cases hp)) e hq, h⟩
    · rw [decide_eq_false hl] at h; cases h
  · cases h
def L25 {R : Type} (_ : ORC R) (_ : Nat) : Nat → St → (Ex → St → Option R) → Option R := fun _ _ _ => none
def f25 {R : Type} (G : ORC R) (k : Nat) (ai1 ai2 : Int) (as3 : ByteArray) (al4 : List V) (ai5 : Int) (al6 al7 : List V) (al8 al9 : List V) (K : List V → Option R) : Option R :=
  (G 42 [.sl 4 [], .agg [.int .i64 ai1, .int .i64 ai2, .str as3, .sl 5 al4, .int .i64 ai5], .agg [.sl 1 al6, .sl 1 al7, .sl 1 al8, .sl 7 al9]] fun o10 => uL 4 o10 fun l12 r11 => unNil r11 (K [.sl 4 l12]))
theorem f25_is {R : Type} (G : ORC R) (k : Nat) (K : List V → Option R) (ai1 ai2 : Int) (as3 : ByteArray) (al4 : List V) (ai5 : Int) (al6 al7 : List V) (al8 al9 : List V) :
    callF (TAB.env 25) G (L25 G k) Try.f25 S25 [.agg [.int .i64 ai1, .int .i64 ai2, .str as3, .sl 5 al4, .int .i64 ai5], .agg [.sl 1 al6, .sl 1 al7, .sl 1 al8, .sl 7 al9]] K = f25 G k ai1 ai2 as3 al4 ai5 al6 al7 al8 al9 K := by kernel_rfl
theorem lo25 : loopsOf (bodyOf Try.f25) = [] := by kernel_rfl
theorem la25 {R : Type} (G : ORC R) (k : Nat) : LoopsAre (TAB.env 25) G (L25 G k) (bodyOf Try.f25) :=
  loopsAre_of (by rw [lo25]; intro p hp; cases hp)
def g25 {R : Type} (G : ORC R) (k : Nat) (args : List V) (K : List V → Option R) : Option R := match args with
  | [.agg [.int .i64 ai1, .int .i64 ai2, .str as3, .sl 5 al4, .int .i64 ai5], .agg [.sl 1 al6, .sl 1 al7, .sl 1 al8, .sl 7 al9]] => f25 G k ai1 ai2 as3 al4 ai5 al6 al7 al8 al9 K
  | _ => none
theorem s25 {R : Type} {G : ORC R} {k : Nat} (hG : Sound Try.prog TAB G) (args : List V) (K : List V → Option R) (r : R) (h : g25 G k args K = some r) : ∃ o, CallOK Try.prog TAB.env 25 args o ∧ K o = some r := by
  unfold g25 at h
  split at h
  · rw [← f25_is] at h
    exact callF_sound (f := 25) TAB_chk MO hG Try.func25 (sg := S25) (by kernel_rfl) (by kernel_rfl) (la25 G k) h
  · cases h
def L7 {R : Type} (_ : ORC R) (_ : Nat) : Nat → St → (Ex → St → Option R) → Option R := fun _ _ _ => none
def f7 {R : Type} (G : ORC R) (k : Nat) (al1 : List V) (K : List V → Option R) : Option R :=
  (bif (decide ((al1.length : Int) > 150)) then (G 14 [] fun o2 => uB o2 fun b4 r3 => unNil r3 (K [.bool b4])) else (G 15 [] fun o5 => uA o5 fun l7 r6 => uL 1 l7 fun l9 r8 => uL 1 r8 fun l11 r10 => uL 1 r10 fun l13 r12 => uL 1 r12 fun l15 r14 => unNil r14 (uA r6 fun l17 r16 => uL 1 l17 fun l19 r18 => uL 1 r18 fun l21 r20 => uL 1 r20 fun l23 r22 => uL 7 r22 fun l25 r24 => unNil r24 (uA r16 fun l27 r26 => uL 1 l27 fun l29 r28 => uL 1 r28 fun l31 r30 => uL 1 r30 fun l33 r32 => uL 7 r32 fun l35 r34 => unNil r34 (unNil r26 (G 23 [.agg [.sl 1 l9, .sl 1 l11, .sl 1 l13, .sl 1 l15], .int .i64 5, .sl 1 al1, .int .i64 0] fun o36 => uA o36 fun l38 r37 => uI .i64 l38 fun n40 r39 => uI .i64 r39 fun n42 r41 => uS r41 fun s44 r43 => uL 5 r43 fun l46 r45 => uI .i64 r45 fun n48 r47 => unNil r47 (uI .i64 r37 fun n50 r49 => unNil r49 (G 24 [.agg [.int .i64 n40, .int .i64 n42, .str s44, .sl 5 l46, .int .i64 n48], .agg [.sl 1 l19, .sl 1 l21, .sl 1 l23, .sl 7 l25]] fun o51 => uL 4 o51 fun l53 r52 => unNil r52 (G 25 [.agg [.int .i64 n40, .int .i64 n42, .str s44, .sl 5 l46, .int .i64 n48], .agg [.sl 1 l29, .sl 1 l31, .sl 1 l33, .sl 7 l35]] fun o54 => uL 4 o54 fun l56 r55 => unNil r55 (G 17 [.sl 4 l53, .sl 4 l56] fun o57 => uB o57 fun b59 r58 => unNil r58 (bif b59 then (G 14 [] fun o60 => uB o60 fun b62 r61 => unNil r61 (K [.bool b62])) else (K [.bool false]))))))))))))
theorem f7_is {R : Type} (G : ORC R) (k : Nat) (K : List V → Option R) (al1 : List V) :
    callF (TAB.env 7) G (L7 G k) Try.f7 S7 [.sl 1 al1] K = f7 G k al1 K := by kernel_rfl
theorem lo7 : loopsOf (bodyOf Try.f7) = [] := by kernel_rfl
theorem la7 {R : Type} (G : ORC R) (k : Nat) : LoopsAre (TAB.env 7) G (L7 G k) (bodyOf Try.f7) :=
  loopsAre_of (by rw [lo7]; intro p hp; cases hp)
def g7 {R : Type} (G : ORC R) (k : Nat) (args : List V) (K : List V → Option R) : Option R := match args with
  | [.sl 1 al1] => f7 G k al1 K
  | _ => none
theorem s7 {R : Type} {G : ORC R} {k : Nat} (hG : Sound Try.prog TAB G) (args : List V) (K : List V → Option R) (r : R) (h : g7 G k args K = some r) : ∃ o, CallOK Try.prog TAB.env 7 args o ∧ K o = some r := by
  unfold g7 at h
  split at h
  · rw [← f7_is] at h
    exact callF_sound (f := 7) TAB_chk MO hG Try.func7 (sg := S7) (by kernel_rfl) (by kernel_rfl) (la7 G k) h
  · cases h
def L26 {R : Type} (_ : ORC R) (_ : Nat) : Nat → St → (Ex → St → Option R) → Option R := fun _ _ _ => none
def f26 {R : Type} (G : ORC R) (k : Nat)  (K : List V → Option R) : Option R :=
  (G 31 [.sl 4 [.agg [.int .i64 1, .int .i64 0, .int .i64 1, .str ⟨#[]⟩], .agg [.int .i64 1, .int .i64 0, .int .i64 0, .str ⟨#[]⟩], .agg [.int .i64 8, .int .i64 0, .int .i64 0, .str ⟨#[]⟩]], .agg [.sl 1 [], .sl 1 [], .sl 1 []], .int .i64 0, .int .i64 9] fun o1 => uA o1 fun l3 r2 => uI .i64 l3 fun n5 r4 => uL 1 r4 fun l7 r6 => uL 2 r6 fun l9 r8 => uL 4 r8 fun l11 r10 => uI .i64 r10 fun n13 r12 => uI .i64 r12 fun n15 r14 => unNil r14 (unNil r2 (G 31 [.sl 4 [.agg [.int .i64 3, .int .i64 0, .int .i64 0, .str ⟨#[]⟩], .agg [.int .i64 20, .int .i64 1, .int .i64 0, .str ⟨#[101]⟩]], .agg [.sl 1 [], .sl 1 [], .sl 1 []], .int .i64 7, .int .i64 9] fun o16 => uA o16 fun l18 r17 => uI .i64 l18 fun n20 r19 => uL 1 r19 fun l22 r21 => uL 2 r21 fun l24 r23 => uL 4 r23 fun l26 r25 => uI .i64 r25 fun n28 r27 => uI .i64 r27 fun n30 r29 => unNil r29 (unNil r17 (bif (n15 == 3) then (bif (n13 == 3) then (bif (n30 == 0) then (bif ((l26.length : Int) == 1) then (bif (decide (0 < (l26.length : Int))) then (nthK l26 0 fun e31 => V.asAgg e31 fun l32 => ce4 l32 fun c33 c34 c35 c36 => V.asInt c33 fun k42 n43 => bif ((decide (k42 = .i64)) && true) then (V.asInt c34 fun k44 n45 => bif ((decide (k44 = .i64)) && true) then (V.asStr c35 fun s46 => V.asInt c36 fun k47 n48 => bif ((decide (k47 = .i64)) && true) then (K [.bool ((n43 == 1) && ((n45 == 1) && ((ByteArray.toList s46 == ByteArray.toList ⟨#[101]⟩) && ((n48 == 7) && true))))]) else none) else none) else none) else none) else (K [.bool false])) else (K [.bool false])) else (K [.bool false])) else (K [.bool false]))))))
theorem f26_is {R : Type} (G : ORC R) (k : Nat) (K : List V → Option R)  :
    callF (TAB.env 26) G (L26 G k) Try.f26 S26 [] K = f26 G k  K := by kernel_rfl
theorem lo26 : loopsOf (bodyOf Try.f26) = [] := by kernel_rfl
theorem la26 {R : Type} (G : ORC R) (k : Nat) : LoopsAre (TAB.env 26) G (L26 G k) (bodyOf Try.f26) :=
  loopsAre_of (by rw [lo26]; intro p hp; cases hp)
def g26 {R : Type} (G : ORC R) (k : Nat) (args : List V) (K : List V → Option R) : Option R := match args with
  | [] => f26 G k  K
  | _ => none
theorem s26 {R : Type} {G : ORC R} {k : Nat} (hG : Sound Try.prog TAB G) (args : List V) (K : List V → Option R) (r : R) (h : g26 G k args K = some r) : ∃ o, CallOK Try.prog TAB.env 26 args o ∧ K o = some r := by
  unfold g26 at h
  split at h
  · rw [← f26_is] at h
    exact callF_sound (f := 26) TAB_chk MO hG Try.func26 (sg := S26) (by kernel_rfl) (by kernel_rfl) (la26 G k) h
  · cases h
def L28 {R : Type} (_ : ORC R) (_ : Nat) : Nat → St → (Ex → St → Option R) → Option R := fun _ _ _ => none
def f28 {R : Type} (G : ORC R) (k : Nat) (ai1 ai2 : Int) (ab3 : Bool) (K : List V → Option R) : Option R :=
  (bif ab3 then (K [.agg [.sl 1 [.int .i64 0, .int .i64 2], .sl 1 [.int .i64 ai1, .int .i64 ai2], .sl 1 []]]) else (K [.agg [.sl 1 [.int .i64 0, .int .i64 1], .sl 1 [.int .i64 ai1, .int .i64 ai2], .sl 1 []]]))
theorem f28_is {R : Type} (G : ORC R) (k : Nat) (K : List V → Option R) (ai1 ai2 : Int) (ab3 : Bool) :
    callF (TAB.env 28) G (L28 G k) Try.f28 S28 [.int .i64 ai1, .int .i64 ai2, .bool ab3] K = f28 G k ai1 ai2 ab3 K := by kernel_rfl
theorem lo28 : loopsOf (bodyOf Try.f28) = [] := by kernel_rfl
theorem la28 {R : Type} (G : ORC R) (k : Nat) : LoopsAre (TAB.env 28) G (L28 G k) (bodyOf Try.f28) :=
  loopsAre_of (by rw [lo28]; intro p hp; cases hp)
def g28 {R : Type} (G : ORC R) (k : Nat) (args : List V) (K : List V → Option R) : Option R := match args with
  | [.int .i64 ai1, .int .i64 ai2, .bool ab3] => f28 G k ai1 ai2 ab3 K
  | _ => none
theorem s28 {R : Type} {G : ORC R} {k : Nat} (hG : Sound Try.prog TAB G) (args : List V) (K : List V → Option R) (r : R) (h : g28 G k args K = some r) : ∃ o, CallOK Try.prog TAB.env 28 args o ∧ K o = some r := by
  unfold g28 at h
  split at h
  · rw [← f28_is] at h
    exact callF_sound (f := 28) TAB_chk MO hG Try.func28 (sg := S28) (by kernel_rfl) (by kernel_rfl) (la28 G k) h
  · cases h
def L11 {R : Type} (_ : ORC R) (_ : Nat) : Nat → St → (Ex → St → Option R) → Option R := fun _ _ _ => none
def f11 {R : Type} (G : ORC R) (k : Nat) (ai1 ai2 : Int) (ab3 : Bool) (K : List V → Option R) : Option R :=
  (bif ab3 then (G 28 [.int .i64 ai1, .int .i64 ai2, .bool false] fun o4 => uA o4 fun l6 r5 => uL 1 l6 fun l8 r7 => uL 1 r7 fun l10 r9 => uL 1 r9 fun l12 r11 => unNil r11 (unNil r5 (G 25 [.agg [.int .i64 19, .int .i64 0, .str ⟨#[]⟩, .sl 5 [.agg [.int .i64 2, .int .i64 0, .str ⟨#[120]⟩, .sl 5 [], .int .i64 0], .agg [.int .i64 2, .int .i64 0, .str ⟨#[121]⟩, .sl 5 [], .int .i64 0]], .int .i64 0], .agg [.sl 1 [.str ⟨#[120]⟩, .str ⟨#[121]⟩], .sl 1 [], .sl 1 [], .sl 7 []]] fun o13 => uL 4 o13 fun l15 r14 => unNil r14 (G 31 [.sl 4 l15, .agg [.sl 1 l8, .sl 1 l10, .sl 1 l12], .int .i64 0, .int .i64 100] fun o16 => uA o16 fun l18 r17 => uI .i64 l18 fun n20 r19 => uL 1 r19 fun l22 r21 => uL 2 r21 fun l24 r23 => uL 4 r23 fun l26 r25 => uI .i64 r25 fun n28 r27 => uI .i64 r27 fun n30 r29 => unNil r29 (unNil r17 (G 25 [.agg [.int .i64 19, .int .i64 0, .str ⟨#[]⟩, .sl 5 [.agg [.int .i64 2, .int .i64 0, .str ⟨#[120]⟩, .sl 5 [], .int .i64 0], .agg [.int .i64 8, .int .i64 0, .str ⟨#[]⟩, .sl 5 [.agg [.int .i64 1, .int .i64 1, .str ⟨#[]⟩, .sl 5 [], .int .i64 0], .agg [.int .i64 1, .int .i64 0, .str ⟨#[]⟩, .sl 5 [], .int .i64 0]], .int .i64 0]], .int .i64 0], .agg [.sl 1 [.str ⟨#[120]⟩, .str ⟨#[121]⟩], .sl 1 [], .sl 1 [], .sl 7 []]] fun o31 => uL 4 o31 fun l33 r32 => unNil r32 (G 31 [.sl 4 l33, .agg [.sl 1 l8, .sl 1 l10, .sl 1 l12], .int .i64 0, .int .i64 100] fun o34 => uA o34 fun l36 r35 => uI .i64 l36 fun n38 r37 => uL 1 r37 fun l40 r39 => uL 2 r39 fun l42 r41 => uL 4 r41 fun l44 r43 => uI .i64 r43 fun n46 r45 => uI .i64 r45 fun n48 r47 => unNil r47 (unNil r35 (G 25 [.agg [.int .i64 6, .int .i64 0, .str ⟨#[]⟩, .sl 5 [.agg [.int .i64 2, .int .i64 0, .str ⟨#[120]⟩, .sl 5 [], .int .i64 0]], .int .i64 0], .agg [.sl 1 [.str ⟨#[120]⟩, .str ⟨#[121]⟩], .sl 1 [], .sl 1 [], .sl 7 []]] fun o49 => uL 4 o49 fun l51 r50 => unNil r50 (G 31 [.sl 4 l51, .agg [.sl 1 l8, .sl 1 l10, .sl 1 l12], .int .i64 0, .int .i64 100] fun o52 => uA o52 fun l54 r53 => uI .i64 l54 fun n56 r55 => uL 1 r55 fun l58 r57 => uL 2 r57 fun l60 r59 => uL 4 r59 fun l62 r61 => uI .i64 r61 fun n64 r63 => uI .i64 r63 fun n66 r65 => unNil r65 (unNil r53 (bif (ai1 != 0) then (bif ab3 then (bif (ai1 != 0) then (bif (n30 == 0) then (bif ((n20 == 1) == true) then (bif ((n20 == 0) == false) then (bif ((n48 == 3) == (ai1 == 0)) then (bif ((n56 == 1) == (ai1 == 0)) then (bif (ai1 == 0) then (G 26 [] fun o67 => uB o67 fun b69 r68 => unNil r68 (K [.bool b69])) else (bif (n48 == 0) then (G 26 [] fun o70 => uB o70 fun b72 r71 => unNil r71 (K [.bool b72])) else (K [.bool false]))) else (K [.bool false])) else (K [.bool false])) else (K [.bool false])) else (K [.bool false])) else (K [.bool false])) else (bif (n30 == 0) then (bif ((n20 == 1) == (ai2 != 0)) then (bif ((n20 == 0) == (!(ai2 != 0))) then (bif ((n48 == 3) == (ai1 == 0)) then (bif ((n56 == 1) == (ai1 == 0)) then (bif (ai1 == 0) then (G 26 [] fun o73 => uB o73 fun b75 r74 => unNil r74 (K [.bool b75])) else (bif (n48 == 0) then (G 26 [] fun o76 => uB o76 fun b78 r77 => unNil r77 (K [.bool b78])) else (K [.bool false]))) else (K [.bool false])) else (K [.bool false])) else (K [.bool false])) else (K [.bool false])) else (K [.bool false]))) else (bif (n30 == 0) then (bif ((n20 == 1) == (ai2 != 0)) then (bif ((n20 == 0) == (!(ai2 != 0))) then (bif ((n48 == 3) == (ai1 != 0)) then (bif ((n56 == 1) == (ai1 == 0)) then (bif (ai1 != 0) then (G 26 [] fun o79 => uB o79 fun b81 r80 => unNil r80 (K [.bool b81])) else (bif (n48 == 0) then (G 26 [] fun o82 => uB o82 fun b84 r83 => unNil r83 (K [.bool b84])) else (K [.bool false]))) else (K [.bool false])) else (K [.bool false])) else (K [.bool false])) else (K [.bool false])) else (K [.bool false]))) else (bif ab3 then (bif (ai1 != 0) then (bif (n30 == 0) then (bif ((n20 == 1) == true) then (bif ((n20 == 0) == false) then (bif ((n48 == 3) == (ai1 == 0)) then (bif ((n56 == 1) == (ai1 == 0)) then (bif (ai1 == 0) then (G 26 [] fun o85 => uB o85 fun b87 r86 => unNil r86 (K [.bool b87])) else (bif (n48 == 0) then (G 26 [] fun o88 => uB o88 fun b90 r89 => unNil r89 (K [.bool b90])) else (K [.bool false]))) else (K [.bool false])) else (K [.bool false])) else (K [.bool false])) else (K [.bool false])) else (K [.bool false])) else (bif (n30 == 0) then (bif ((n20 == 1) == (ai2 != 0)) then (bif ((n20 == 0) == (!(ai2 != 0))) then (bif ((n48 == 3) == (ai1 == 0)) then (bif ((n56 == 1) == (ai1 == 0)) then (bif (ai1 == 0) then (G 26 [] fun o91 => uB o91 fun b93 r92 => unNil r92 (K [.bool b93])) else (bif (n48 == 0) then (G 26 [] fun o94 => uB o94 fun b96 r95 => unNil r95 (K [.bool b96])) else (K [.bool false]))) else (K [.bool false])) else (K [.bool false])) else (K [.bool false])) else (K [.bool false])) else (K [.bool false]))) else (bif (n30 == 0) then (bif ((n20 == 1) == false) then (bif ((n20 == 0) == true) then (bif ((n48 == 3) == (ai1 != 0)) then (bif ((n56 == 1) == (ai1 == 0)) then (bif (ai1 != 0) then (G 26 [] fun o97 => uB o97 fun b99 r98 => unNil r98 (K [.bool b99])) else (bif (n48 == 0) then (G 26 [] fun o100 => uB o100 fun b102 r101 => unNil r101 (K [.bool b102])) else (K [.bool false]))) else (K [.bool false])) else (K [.bool false])) else (K [.bool false])) else (K [.bool false])) else (K [.bool false]))))))))))))))) else (G 28 [.int .i64 ai1, .int .i64 ai2, .bool false] fun o103 => uA o103 fun l105 r104 => uL 1 l105 fun l107 r106 => uL 1 r106 fun l109 r108 => uL 1 r108 fun l111 r110 => unNil r110 (unNil r104 (G 25 [.agg [.int .i64 18, .int .i64 0, .str ⟨#[]⟩, .sl 5 [.agg [.int .i64 2, .int .i64 0, .str ⟨#[120]⟩, .sl 5 [], .int .i64 0], .agg [.int .i64 2, .int .i64 0, .str ⟨#[121]⟩, .sl 5 [], .int .i64 0]], .int .i64 0], .agg [.sl 1 [.str ⟨#[120]⟩, .str ⟨#[121]⟩], .sl 1 [], .sl 1 [], .sl 7 []]] fun o112 => uL 4 o112 fun l114 r113 => unNil r113 (G 31 [.sl 4 l114, .agg [.sl 1 l107, .sl 1 l109, .sl 1 l111], .int .i64 0, .int .i64 100] fun o115 => uA o115 fun l117 r116 => uI .i64 l117 fun n119 r118 => uL 1 r118 fun l121 r120 => uL 2 r120 fun l123 r122 => uL 4 r122 fun l125 r124 => uI .i64 r124 fun n127 r126 => uI .i64 r126 fun n129 r128 => unNil r128 (unNil r116 (G 25 [.agg [.int .i64 18, .int .i64 0, .str ⟨#[]⟩, .sl 5 [.agg [.int .i64 2, .int .i64 0, .str ⟨#[120]⟩, .sl 5 [], .int .i64 0], .agg [.int .i64 8, .int .i64 0, .str ⟨#[]⟩, .sl 5 [.agg [.int .i64 1, .int .i64 1, .str ⟨#[]⟩, .sl 5 [], .int .i64 0], .agg [.int .i64 1, .int .i64 0, .str ⟨#[]⟩, .sl 5 [], .int .i64 0]], .int .i64 0]], .int .i64 0], .agg [.sl 1 [.str ⟨#[120]⟩, .str ⟨#[121]⟩], .sl 1 [], .sl 1 [], .sl 7 []]] fun o130 => uL 4 o130 fun l132 r131 => unNil r131 (G 31 [.sl 4 l132, .agg [.sl 1 l107, .sl 1 l109, .sl 1 l111], .int .i64 0, .int .i64 100] fun o133 => uA o133 fun l135 r134 => uI .i64 l135 fun n137 r136 => uL 1 r136 fun l139 r138 => uL 2 r138 fun l141 r140 => uL 4 r140 fun l143 r142 => uI .i64 r142 fun n145 r144 => uI .i64 r144 fun n147 r146 => unNil r146 (unNil r134 (G 25 [.agg [.int .i64 6, .int .i64 0, .str ⟨#[]⟩, .sl 5 [.agg [.int .i64 2, .int .i64 0, .str ⟨#[120]⟩, .sl 5 [], .int .i64 0]], .int .i64 0], .agg [.sl 1 [.str ⟨#[120]⟩, .str ⟨#[121]⟩], .sl 1 [], .sl 1 [], .sl 7 []]] fun o148 => uL 4 o148 fun l150 r149 => unNil r149 (G 31 [.sl 4 l150, .agg [.sl 1 l107, .sl 1 l109, .sl 1 l111], .int .i64 0, .int .i64 100] fun o151 => uA o151 fun l153 r152 => uI .i64 l153 fun n155 r154 => uL 1 r154 fun l157 r156 => uL 2 r156 fun l159 r158 => uL 4 r158 fun l161 r160 => uI .i64 r160 fun n163 r162 => uI .i64 r162 fun n165 r164 => unNil r164 (unNil r152 (bif (ai1 != 0) then (bif ab3 then (bif (ai1 != 0) then (bif (n129 == 0) then (bif ((n119 == 1) == true) then (bif ((n119 == 0) == false) then (bif ((n147 == 3) == (ai1 == 0)) then (bif ((n155 == 1) == (ai1 == 0)) then (bif (ai1 == 0) then (G 26 [] fun o166 => uB o166 fun b168 r167 => unNil r167 (K [.bool b168])) else (bif (n147 == 0) then (G 26 [] fun o169 => uB o169 fun b171 r170 => unNil r170 (K [.bool b171])) else (K [.bool false]))) else (K [.bool false])) else (K [.bool false])) else (K [.bool false])) else (K [.bool false])) else (K [.bool false])) else (bif (n129 == 0) then (bif ((n119 == 1) == (ai2 != 0)) then (bif ((n119 == 0) == (!(ai2 != 0))) then (bif ((n147 == 3) == (ai1 == 0)) then (bif ((n155 == 1) == (ai1 == 0)) then (bif (ai1 == 0) then (G 26 [] fun o172 => uB o172 fun b174 r173 => unNil r173 (K [.bool b174])) else (bif (n147 == 0) then (G 26 [] fun o175 => uB o175 fun b177 r176 => unNil r176 (K [.bool b177])) else (K [.bool false]))) else (K [.bool false])) else (K [.bool false])) else (K [.bool false])) else (K [.bool false])) else (K [.bool false]))) else (bif (n129 == 0) then (bif ((n119 == 1) == (ai2 != 0)) then (bif ((n119 == 0) == (!(ai2 != 0))) then (bif ((n147 == 3) == (ai1 != 0)) then (bif ((n155 == 1) == (ai1 == 0)) then (bif (ai1 != 0) then (G 26 [] fun o178 => uB o178 fun b180 r179 => unNil r179 (K [.bool b180])) else (bif (n147 == 0) then (G 26 [] fun o181 => uB o181 fun b183 r182 => unNil r182 (K [.bool b183])) else (K [.bool false]))) else (K [.bool false])) else (K [.bool false])) else (K [.bool false])) else (K [.bool false])) else (K [.bool false]))) else (bif ab3 then (bif (ai1 != 0) then (bif (n129 == 0) then (bif ((n119 == 1) == true) then (bif ((n119 == 0) == false) then (bif ((n147 == 3) == (ai1 == 0)) then (bif ((n155 == 1) == (ai1 == 0)) then (bif (ai1 == 0) then (G 26 [] fun o184 => uB o184 fun b186 r185 => unNil r185 (K [.bool b186])) else (bif (n147 == 0) then (G 26 [] fun o187 => uB o187 fun b189 r188 => unNil r188 (K [.bool b189])) else (K [.bool false]))) else (K [.bool false])) else (K [.bool false])) else (K [.bool false])) else (K [.bool false])) else (K [.bool false])) else (bif (n129 == 0) then (bif ((n119 == 1) == (ai2 != 0)) then (bif ((n119 == 0) == (!(ai2 != 0))) then (bif ((n147 == 3) == (ai1 == 0)) then (bif ((n155 == 1) == (ai1 == 0)) then (bif (ai1 == 0) then (G 26 [] fun o190 => uB o190 fun b192 r191 => unNil r191 (K [.bool b192])) else (bif (n147 == 0) then (G 26 [] fun o193 => uB o193 fun b195 r194 => unNil r194 (K [.bool b195])) else (K [.bool false]))) else (K [.bool false])) else (K [.bool false])) else (K [.bool false])) else (K [.bool false])) else (K [.bool false]))) else (bif (n129 == 0) then (bif ((n119 == 1) == false) then (bif ((n119 == 0) == true) then (bif ((n147 == 3) == (ai1 != 0)) then (bif ((n155 == 1) == (ai1 == 0)) then (bif (ai1 != 0) then (G 26 [] fun o196 => uB o196 fun b198 r197 => unNil r197 (K [.bool b198])) else (bif (n147 == 0) then (G 26 [] fun o199 => uB o199 fun b201 r200 => unNil r200 (K [.bool b201])) else (K [.bool false]))) else (K [.bool false])) else (K [.bool false])) else (K [.bool false])) else (K [.bool false])) else (K [.bool false]))))))))))))))))
theorem f11_true {R : Type} (G : ORC R) (k : Nat) (K : List V → Option R) (ai1 ai2 : Int) :
    callF (TAB.env 11) G (L11 G k) Try.f11 S11 [.int .i64 ai1, .int .i64 ai2, .bool true] K = f11 G k ai1 ai2 true K := by kernel_rfl
theorem f11_false {R : Type} (G : ORC R) (k : Nat) (K : List V → Option R) (ai1 ai2 : Int) :
    callF (TAB.env 11) G (L11 G k) Try.f11 S11 [.int .i64 ai1, .int .i64 ai2, .bool false] K = f11 G k ai1 ai2 false K := by kernel_rfl
theorem f11_is {R : Type} (G : ORC R) (k : Nat) (K : List V → Option R) (ai1 ai2 : Int) (ab3 : Bool) :
    callF (TAB.env 11) G (L11 G k) Try.f11 S11 [.int .i64 ai1, .int .i64 ai2, .bool ab3] K = f11 G k ai1 ai2 ab3 K := by
  cases ab3
  · exact f11_false G k K ai1 ai2
  · exact f11_true G k K ai1 ai2
theorem lo11 : loopsOf (bodyOf Try.f11) = [] := by kernel_rfl
theorem la11 {R : Type} (G : ORC R) (k : Nat) : LoopsAre (TAB.env 11) G (L11 G k) (bodyOf Try.f11) :=
  loopsAre_of (by rw [lo11]; intro p hp; cases hp)
def g11 {R : Type} (G : ORC R) (k : Nat) (args : List V) (K : List V → Option R) : Option R := match args with
  | [.int .i64 ai1, .int .i64 ai2, .bool ab3] => f11 G k ai1 ai2 ab3 K
  | _ => none
theorem s11 {R : Type} {G : ORC R} {k : Nat} (hG : Sound Try.prog TAB G) (args : List V) (K : List V → Option R) (r : R) (h : g11 G k args K = some r) : ∃ o, CallOK Try.prog TAB.env 11 args o ∧ K o = some r := by
  unfold g11 at h
  split at h
  · rw [← f11_is] at h
    exact callF_sound (f := 11) TAB_chk MO hG Try.func11 (sg := S11) (by kernel_rfl) (by kernel_rfl) (la11 G k) h
  · cases h
open Go
open Go Go.RowKit
def InR (x : Int) : Prop := -9223372036854775808 ≤ x ∧ x ≤ 9223372036854775807
instance (x : Int) : Decidable (InR x) := by unfold InR; infer_instance
theorem wrap_in {x : Int} (h : InR x) : wrap64 x = x := by unfold InR at h; unfold wrap64; omega
theorem in_wrap (x : Int) : InR (wrap64 x) := by unfold InR wrap64; omega
theorem wrap_toNat (b : BitVec 64) : IntKind.i64.wrap (b.toNat : Int) = b.toInt := by
  rw [IntKind.wrap_i64, BitVec.toInt_eq_toNat_cond]
  have := b.isLt
  split <;> omega
theorem msb_ofInt {x : Int} (h : InR x) : (BitVec.ofInt 64 x).msb = decide (x < 0) := by
  unfold InR at h
  have e : (BitVec.ofInt 64 x).toInt = x := by
    rw [BitVec.toInt_ofInt]
    exact Int.bmod_eq_of_le (by omega) (by omega)
  rw [BitVec.msb_eq_toInt, e]
theorem and_xor_neg {a b c d : Int} (ha : InR a) (hb : InR b) (hc : InR c) (hd : InR d) :
    (bits .and .i64 (bits .xor .i64 a b) (bits .xor .i64 c d) < 0) ↔ ((a < 0) ≠ (b < 0) ∧ (c < 0) ≠ (d < 0)) := by
  have key : ∀ x y : Int, (bits .xor .i64 x y) = (BitVec.ofInt 64 x ^^^ BitVec.ofInt 64 y).toInt := fun x y => wrap_toNat _
  have key2 : ∀ x y : Int, (bits .and .i64 x y) = (BitVec.ofInt 64 x &&& BitVec.ofInt 64 y).toInt := fun x y => wrap_toNat _
  rw [key, key, key2, BitVec.ofInt_toInt, BitVec.ofInt_toInt]
  rw [show ∀ z : BitVec 64, (z.toInt < 0) ↔ z.msb = true from fun z => by rw [BitVec.msb_eq_toInt]; simp]
  rw [BitVec.msb_and, BitVec.msb_xor, BitVec.msb_xor, msb_ofInt ha, msb_ofInt hb, msb_ofInt hc, msb_ofInt hd]
  by_cases a < 0 <;> by_cases b < 0 <;> by_cases c < 0 <;> by_cases d < 0 <;> simp [*]
theorem add_test {a b : Int} (ha : InR a) (hb : InR b) :
    (bits .and .i64 (bits .xor .i64 a (wrap64 (a + b))) (bits .xor .i64 b (wrap64 (a + b))) < 0) ↔ ¬ InR (a + b) := by
  rw [and_xor_neg ha (in_wrap _) hb (in_wrap _)]
  unfold InR wrap64 at *
  constructor
  · intro ⟨h1, h2⟩ h3
    have h1' : ¬ (a < 0 ↔ (a + b + 9223372036854775808) % 18446744073709551616 - 9223372036854775808 < 0) := fun h => h1 (propext h)
    have h2' : ¬ (b < 0 ↔ (a + b + 9223372036854775808) % 18446744073709551616 - 9223372036854775808 < 0) := fun h => h2 (propext h)
    omega
  · intro h
    refine ⟨fun h1 => ?_, fun h1 => ?_⟩ <;> (have h1 := Iff.of_eq h1; omega)
theorem sub_test {a b : Int} (ha : InR a) (hb : InR b) :
    (bits .and .i64 (bits .xor .i64 a b) (bits .xor .i64 a (wrap64 (a - b))) < 0) ↔ ¬ InR (a - b) := by
  rw [and_xor_neg ha hb ha (in_wrap _)]
  unfold InR wrap64 at *
  constructor
  · intro ⟨h1, h2⟩ h3
    have h1' : ¬ (a < 0 ↔ b < 0) := fun h => h1 (propext h)
    have h2' : ¬ (a < 0 ↔ (a - b + 9223372036854775808) % 18446744073709551616 - 9223372036854775808 < 0) := fun h => h2 (propext h)
    omega
  · intro h
    refine ⟨fun h1 => ?_, fun h1 => ?_⟩ <;> (have h1 := Iff.of_eq h1; omega)
theorem tmod_bd (c : Int) {b : Int} (hb0 : b ≠ 0) : (b.natAbs : Int) > c.tmod b ∧ -(b.natAbs : Int) < c.tmod b := by
  have h : (c.tmod b).natAbs < b.natAbs := by
    rw [Int.natAbs_tmod]; exact Nat.mod_lt _ (by omega)
  omega
theorem tdiv_bd (c : Int) {b : Int} : (c.tdiv b).natAbs ≤ c.natAbs := by
  rw [Int.natAbs_tdiv]; exact Nat.div_le_self _ _
theorem mul_test {a b : Int} (ha : InR a) (hb : InR b) (hb0 : b ≠ 0) (h1 : ¬(b = -1 ∧ a = -9223372036854775808)) :
    wrap64 (Int.tdiv (wrap64 (a * b)) b) = a ↔ InR (a * b) := by
  constructor
  · intro h
    by_cases e : b = -1
    · subst e; unfold InR at *; omega
    · have hq := Int.mul_tdiv_add_tmod (wrap64 (a * b)) b
      have hm := tmod_bd (wrap64 (a * b)) hb0
      have hc := in_wrap (a * b)
      have hd := tdiv_bd (wrap64 (a * b)) (b := b)
      generalize hC : wrap64 (a * b) = c at *
      have hwc : (c - a * b) % 18446744073709551616 = 0 := by rw [← hC]; unfold wrap64; omega
      have hqr : InR (c.tdiv b) := by
        by_cases e1 : b = 1
        · subst e1; simpa using hc
        · -- |b| ≥ 2
          have h2 : (c.tdiv b).natAbs ≤ c.natAbs / 2 := by
            rw [Int.natAbs_tdiv]; exact Nat.div_le_div_left (by omega) (by omega)
          unfold InR at *; omega
      rw [wrap_in hqr] at h
      rw [h] at hq
      have : b * a = a * b := Int.mul_comm _ _
      rw [this] at hq
      generalize a * b = p at *
      have hp : p = c := by unfold InR at *; omega
      rw [hp]; exact hc
  · intro h
    rw [wrap_in h, Int.mul_tdiv_cancel _ hb0, wrap_in ha]
set_option maxHeartbeats 8000000
section
variable {R : Type} {G : ORC R} {k : Nat} {K : List V → Option R}
def over (n : Int) : Int × Int := if InR n then (n, 0) else (0, 2)
def divR (a b : Int) : Int × Int := if b = 0 then (0, 3) else if b = -1 ∧ a = -9223372036854775808 then (0, 2) else (Int.tdiv a b, 0)
def modR (a b : Int) : Int × Int := if b = 0 then (0, 3) else if b = -1 then (0, 0) else (Int.tmod a b, 0)
def TwoX (f : FuncId) (F : Int → Int → Int × Int) (G : ORC R) : Prop := ∀ (a b : Int) (K : List V → Option R), InR a → InR b → W (fun o => o = [.int .i64 (F a b).1, .int .i64 (F a b).2]) K (G f [.int .i64 a, .int .i64 b] K)
def OneX (f : FuncId) (G : ORC R) : Prop := ∀ (a : Int) (K : List V → Option R), InR a → W (fun o => o = [.int .i64 (over (0 - a)).1, .int .i64 (over (0 - a)).2]) K (G f [.int .i64 a] K)
theorem wrap_w (x : Int) : IntKind.i64.wrap x = Go.RowKit.wrap64 x := by rw [IntKind.wrap_i64]; rfl
theorem over_in {n : Int} (h : InR n) : over n = (n, 0) := if_pos h
theorem over_out {n : Int} (h : ¬ InR n) : over n = (0, 2) := if_neg h
theorem nadd_ok : TwoX 95 (fun a b => over (a + b)) (fun _ args (K : List V → Option R) => g95 G k args K) := by
  intro a b K ha hb
  show W _ K (f95 G k a b K)
  unfold f95
  simp only [wrap_w]
  refine W_dec (fun h => W_ret ?_) (fun h => W_ret ?_)
  · have := (add_test ha hb).1 h
    rw [over_out this]
  · have : InR (a + b) := Decidable.byContradiction fun c => h ((add_test ha hb).2 c)
    rw [over_in this, wrap_in this]
theorem nsub_ok : TwoX 90 (fun a b => over (a - b)) (fun _ args (K : List V → Option R) => g90 G k args K) := by
  intro a b K ha hb
  show W _ K (f90 G k a b K)
  unfold f90
  simp only [wrap_w]
  refine W_dec (fun h => W_ret ?_) (fun h => W_ret ?_)
  · have := (sub_test ha hb).1 h
    rw [over_out this]
  · have : InR (a - b) := Decidable.byContradiction fun c => h ((sub_test ha hb).2 c)
    rw [over_in this, wrap_in this]
theorem nneg_ok (hS : TwoX 90 (fun a b => over (a - b)) G) : OneX 71 (fun _ args (K : List V → Option R) => g71 G k args K) := by
  intro a K ha
  show W _ K (f71 G k a K)
  unfold f71
  unfold TwoX at hS
  refine W_call (hS _ _ _ (by unfold InR; omega) ha) ?_
  rintro _ rfl
  (repeat(with_reducible apply U1))
  exact W_ret rfl
theorem nmul_ok : TwoX 92 (fun a b => over (a * b)) (fun _ args (K : List V → Option R) => g92 G k args K) := by
  intro a b K ha hb
  show W _ K (f92 G k a b K)
  unfold f92
  refine W_beqI (fun h => W_ret ?_) (fun h => ?_)
  · subst h; show _ = [V.int .i64 (over (0 * b)).1, V.int .i64 (over (0 * b)).2]; rw [Int.zero_mul]; rfl
  refine W_beqI (fun h' => W_ret ?_) (fun h' => ?_)
  · subst h'; show _ = [V.int .i64 (over (a * 0)).1, V.int .i64 (over (a * 0)).2]; rw [Int.mul_zero]; rfl
  have fin : ¬ (b = -1 ∧ a = -9223372036854775808) → W (fun o => o = [V.int .i64 (over (a * b)).1, V.int .i64 (over (a * b)).2]) K (bif (!(b == 0)) then (bif ((IntKind.i64.wrap (Int.tdiv (IntKind.i64.wrap (a * b)) b)) != a) then (K [(.int .i64 0), (.int .i64 2)]) else (K [(.int .i64 (IntKind.i64.wrap (a * b))), (.int .i64 0)])) else none) := fun h1 => by
    refine W_not (W_eqN h' ?_)
    simp only [wrap_w]
    have t := mul_test ha hb h' h1
    by_cases e : InR (a * b)
    · refine W_chk' (by rw [t.2 e]; simp) (W_ret ?_)
      rw [over_in e, wrap_in e]
    · refine W_chk (by simp only [bne_iff_ne, ne_eq]; exact fun c => e (t.1 c)) (W_ret ?_)
      rw [over_out e]
  refine W_beqI (fun e1 => ?_) (fun e1 => ?_)
  · refine W_beqI (fun e2 => W_ret ?_) (fun e2 => ?_)
    · subst e1; subst e2; rfl
    · refine W_beqI (fun e3 => ?_) (fun e3 => fin (fun h => e3 h.1))
      exact W_beqI (fun e4 => by omega) (fun e4 => fin (fun h => e4 h.2))
  · refine W_beqI (fun e3 => ?_) (fun e3 => fin (fun h => e3 h.1))
    refine W_beqI (fun e4 => W_ret ?_) (fun e4 => fin (fun h => e4 h.2))
    subst e3; subst e4; rfl
theorem tdiv_in {a b : Int} (ha : InR a) (h0 : b ≠ 0) (h1 : ¬ (b = -1 ∧ a = -9223372036854775808)) : InR (Int.tdiv a b) := by
  by_cases e1 : b = 1
  · subst e1; simpa using ha
  by_cases e2 : b = -1
  · subst e2
    have : Int.tdiv a (-1) = -a := by rw [Int.tdiv_neg]; simp
    rw [this]; unfold InR at *; omega
  · have h2 : (a.tdiv b).natAbs ≤ a.natAbs / 2 := by
      rw [Int.natAbs_tdiv]; exact Nat.div_le_div_left (by omega) (by omega)
    unfold InR at *; omega
theorem ndiv_ok (hN : OneX 71 G) : TwoX 93 divR (fun _ args (K : List V → Option R) => g93 G k args K) := by
  intro a b K ha hb
  show W _ K (f93 G k a b K)
  unfold f93
  refine W_beqI (fun h => W_ret ?_) (fun h => ?_)
  · rw [divR, if_pos h]
  refine W_beqI (fun h1 => ?_) (fun h1 => ?_)
  · unfold OneX at hN
    refine W_call (hN _ _ ha) ?_
    rintro _ rfl
    (repeat(with_reducible apply U1))
    refine W_ret ?_
    subst h1
    by_cases h2 : a = -9223372036854775808
    · subst h2; rfl
    · have : InR (0 - a) := by unfold InR at *; omega
      rw [over_in this, divR, if_neg h, if_neg (fun c => h2 c.2), Int.tdiv_neg, Int.tdiv_one]; simp
  · refine W_not (W_eqN h (W_ret ?_))
    have h2 : ¬ (b = -1 ∧ a = -9223372036854775808) := fun c => h1 c.1
    rw [divR, if_neg h, if_neg h2, wrap_w, wrap_in (tdiv_in ha h h2)]
theorem nmod_ok : TwoX 94 modR (fun _ args (K : List V → Option R) => g94 G k args K) := by
  intro a b K ha hb
  show W _ K (f94 G k a b K)
  unfold f94
  refine W_beqI (fun h => W_ret ?_) (fun h => ?_)
  · rw [modR, if_pos h]
  refine W_beqI (fun h1 => W_ret ?_) (fun h1 => ?_)
  · rw [modR, if_neg h, if_pos h1]
  · exact W_not (W_eqN h (W_ret (by rw [modR, if_neg h, if_neg h1])))
end
set_option maxHeartbeats 4000000
section
variable {R : Type} {G : ORC R} {k : Nat} {K : List V → Option R}
end
set_option maxHeartbeats 8000000
section
variable {R : Type} {G : ORC R} {k : Nat} {K : List V → Option R}
def NamesNE (l : List Nd) : Prop := (∀ n, l[0]? = some n → n.name.toList = []) ∧ ∀ (j : Nat) n, l[j]? = some n → 0 < j → n.name.toList ≠ []
end
section
variable {R : Type} {G : ORC R} {k : Nat} {K : List V → Option R}
def ins (op a n : Int) : V := .agg [.int .i64 op, .int .i64 a, .int .i64 n, .str ⟨#[]⟩]
def insS (op a n : Int) (s : ByteArray) : V := .agg [.int .i64 op, .int .i64 a, .int .i64 n, .str s]
structure Nms where
  a : List V
  p : List V
  t : List V
  nd : List Nd
def Nms.v (N : Nms) : V := .agg [.sl 1 N.a, .sl 1 N.p, .sl 1 N.t, .sl 7 (N.nd.map Nd.v)]
def Nms.ok (N : Nms) : Prop := StrsS 100 N.a ∧ StrsS 100 N.p ∧ StrsS 100 N.t ∧ N.nd.length ≤ 1000 ∧ NamesNE N.nd
end
set_option maxHeartbeats 16000000
section
variable {R : Type} {G : ORC R} {k : Nat} {K : List V → Option R}
def iv (l : List Int) : List V := l.map (.int .i64)
theorem iv_snoc {l : List Int} {x : Int} : iv (l ++ [x]) = iv l ++ [.int .i64 x] := by simp [iv]
theorem iv_len {l : List Int} : (iv l).length = l.length := by simp [iv]
theorem iv_set {l : List Int} {i : Nat} {x : Int} : (iv l).set i (.int .i64 x) = iv (l.set i x) := by simp [iv, List.map_set]
theorem iv_get {l : List Int} {i : Nat} {x : Int} (h : l[i]? = some x) : (iv l)[i]? = some (.int .i64 x) := by simp [iv, h]
def tr (b : Bool) : Int := if b then 1 else 0
def twoR (op x y : Int) : Int × Int :=
  if op = 7 then over (x * y) else if op = 8 then divR x y else if op = 9 then modR x y else if op = 10 then over (x + y) else if op = 11 then over (x - y)
  else if op = 12 then (tr (decide (x < y)), 0) else if op = 13 then (tr (decide (x ≤ y)), 0) else if op = 14 then (tr (decide (x > y)), 0) else if op = 15 then (tr (decide (x ≥ y)), 0) else if op = 16 then (tr (x == y), 0) else (tr (x != y), 0)
def cfOf (b : Bool) : List Int := [0, if b then 2 else 1]
def loOf (b : Bool) : Int := if b then 5 else 3
structure St where
  pc : Int
  row : List Int
  rnd : List Int
  vs : List Int
  ra : List V
  ef : List V
inductive Stp (b : Bool) (g : Int) : Int → Int → Int → ByteArray → St → Int → St → Prop
  | push {a n s p l r v ra ef} : InR n → Stp b g 1 a n s ⟨p, l, r, v, ra, ef⟩ 0 ⟨p + 1, l ++ [n], r, v, ra, ef⟩
  | load {i : Nat} {n s p l r v ra ef x} : v[i]? = some x → Stp b g 2 i n s ⟨p, l, r, v, ra, ef⟩ 0 ⟨p + 1, l ++ [x], r, v, ra, ef⟩
  | arg {a n s p l r v ra ef} : Stp b g 3 a n s ⟨p, l, r, v, ra, ef⟩ 0 ⟨p + 1, l ++ [g], r, v, ra, ef⟩
  | inn {a n s p l r v ra ef} : Stp b g 4 a n s ⟨p, l, r, v, ra, ef⟩ 0 ⟨p + 1, l ++ [tr (decide (a ∈ cfOf b))], r, v, ra, ef⟩
  | neg {a n s p l r v ra ef x} : InR x → Stp b g 5 a n s ⟨p, l ++ [x], r, v, ra, ef⟩ (over (0 - x)).2 ⟨p + 1, l ++ [(over (0 - x)).1], r, v, ra, ef⟩
  | not {a n s p l r v ra ef x} : Stp b g 6 a n s ⟨p, l ++ [x], r, v, ra, ef⟩ 0 ⟨p + 1, l ++ [tr (x == 0)], r, v, ra, ef⟩
  | two {op a n s p l r v ra ef x y} : 7 ≤ op → op ≤ 17 → InR x → InR y → Stp b g op a n s ⟨p, l ++ [x] ++ [y], r, v, ra, ef⟩ (twoR op x y).2 ⟨p + 1, l ++ [(twoR op x y).1], r, v, ra, ef⟩
  | store {i : Nat} {n s p l r v ra ef x} : i < v.length → Stp b g 18 i n s ⟨p, l ++ [x], r, v, ra, ef⟩ 0 ⟨p + 1, l, r, v.set i x, ra, ef⟩
  | raise {a n s p l r v ra ef x} : Stp b g 19 a n s ⟨p, l ++ [x], r, v, ra, ef⟩ 0 ⟨p + 1, l, r, v, ra ++ [.agg [.str s, .int .i64 x]], ef⟩
  | send {a n s p l r v ra ef x} : Stp b g 20 a n s ⟨p, l ++ [x], r, v, ra, ef⟩ 0 ⟨p + 1, l, r, v, ra, ef ++ [.agg [.int .i64 1, .int .i64 a, .str s, .int .i64 x]]⟩
  | arm {a n s p l r v ra ef x} : 1 ≤ x → x ≤ 65536 → Stp b g 21 a n s ⟨p, l ++ [x], r, v, ra, ef⟩ 0 ⟨p + 1, l, r, v, ra, ef ++ [.agg [.int .i64 2, .int .i64 a, .str ⟨#[]⟩, .int .i64 x]]⟩
  | armE {a n s p l r v ra ef x} : x < 1 ∨ x > 65536 → Stp b g 21 a n s ⟨p, l ++ [x], r, v, ra, ef⟩ 1 ⟨p + 1, l, r, v, ra, ef⟩
  | cancel {a n s p l r v ra ef} : Stp b g 22 a n s ⟨p, l, r, v, ra, ef⟩ 0 ⟨p + 1, l, r, v, ra, ef ++ [.agg [.int .i64 3, .int .i64 a, .str ⟨#[]⟩, .int .i64 0]]⟩
  | jump {i n s p l r v ra ef} : Stp b g 23 i n s ⟨p, l, r, v, ra, ef⟩ 0 ⟨i, l, r, v, ra, ef⟩
  | fals {i n s p l r v ra ef x} : Stp b g 24 i n s ⟨p, l ++ [x], r, v, ra, ef⟩ 0 ⟨if x = 0 then i else p + 1, l, r, v, ra, ef⟩
  | loop {a n s p l r v ra ef} : Stp b g 25 a n s ⟨p, l, r, v, ra, ef⟩ 0 ⟨p + 1, l, r ++ [n], v, ra, ef⟩
  | next1 {i n s p l r v ra ef x} : 0 ≤ i → i ≤ 1000000 → 1 < x → x ≤ 1000000 → Stp b g 26 i n s ⟨p, l, r ++ [x], v, ra, ef⟩ 0 ⟨i + 1, l, r ++ [x - 1], v, ra, ef⟩
  | next0 {i n s p l r v ra ef x} : x ≤ 1 → -1000000 ≤ x → Stp b g 26 i n s ⟨p, l, r ++ [x], v, ra, ef⟩ 0 ⟨p + 1, l, r, v, ra, ef⟩
theorem stp_len {b g op a n s st e st'} (h : Stp b g op a n s st e st') : st'.row.length ≤ st.row.length + 1 ∧ st'.rnd.length ≤ st.rnd.length + 1 ∧ st'.ra.length ≤ st.ra.length + 1 ∧ st'.ef.length ≤ st.ef.length + 1 := by
  cases h <;> simp <;> omega
theorem W_nthA {Q : List V → Prop} {v v' : V} {F : V → Option R} (h : W Q K (F v)) : W Q K (nthK [v, v'] (Int.toNat 0) F) := h
theorem W_nthB {Q : List V → Prop} {v v' : V} {F : V → Option R} (h : W Q K (F v')) : W Q K (nthK [v, v'] (Int.toNat 1) F) := h
def TrX (f : FuncId) (G : ORC R) : Prop := ∀ (b : Bool) (K : List V → Option R), W (fun o => o = [.int .i64 (tr b)]) K (G f [.bool b] K)
theorem ntr_ok : TrX 68 (fun _ args (K : List V → Option R) => g68 G k args K) := by
  intro b K
  show W _ K (f68 G k b K)
  unfold f68
  cases b <;> exact W_ret rfl
def inB (a : Int) : Bool := decide (0 ≤ a) && decide (a < 128)
def InX (G : ORC R) : Prop := ∀ (a : Int) (K : List V → Option R), W (fun o => o = [.bool (inB a)]) K (G 89 [.int .i64 a] K)
theorem inx_ok : InX (fun _ args (K : List V → Option R) => g89 G k args K) := by
  intro a K
  show W _ K (f89 G k a K)
  unfold f89
  refine W_dec (fun h => W_ret ?_) (fun h => W_ret ?_)
  · rw [inB, decide_eq_true h, Bool.true_and]
  · rw [inB, decide_eq_false (by omega), Bool.false_and]
def wiF (lo hi a : Int) : Int × Int :=
  if a < 64 then (bits .or .u64 lo (IntKind.u64.wrap (1 * 2 ^ (min (Int.toNat (Int.tmod a 64)) IntKind.u64.bits))), hi) else (lo, bits .or .u64 hi (IntKind.u64.wrap (1 * 2 ^ (min (Int.toNat (Int.tmod a 64)) IntKind.u64.bits))))
def WiX (G : ORC R) : Prop := ∀ (lo hi a : Int) (K : List V → Option R), W (fun o => o = [.agg [.int .u64 (if inB a then wiF lo hi a else (lo, hi)).1, .int .u64 (if inB a then wiF lo hi a else (lo, hi)).2]]) K (G 66 [.agg [.int .u64 lo, .int .u64 hi], .int .i64 a] K)
theorem wix_ok (hI : InX G) : WiX (fun _ args (K : List V → Option R) => g66 G k args K) := by
  intro lo hi a K
  show W _ K (f66 G k lo hi a K)
  unfold f66
  unfold InX at hI
  refine W_call (hI _ _) ?_
  rintro _ rfl
  (repeat(with_reducible apply U1))
  refine W_bool (fun h => ?_) (fun h => W_ret (by simp [h]))
  have hb : 0 ≤ a ∧ a < 128 := by simpa [inB] using h
  have e1 : Int.tdiv a 64 = a / 64 := Int.tdiv_eq_ediv_of_nonneg hb.1
  have e2 : Int.tmod a 64 = a % 64 := Int.tmod_eq_emod_of_nonneg hb.1
  simp only [h, if_true]
  unfold wiF
  have c0 : ((0 : Nat) == Int.toNat 0) = true := rfl
  have c1 : ((1 : Nat) == Int.toNat 0) = false := rfl
  have c2 : ((0 : Nat) == Int.toNat 1) = false := rfl
  have c3 : ((1 : Nat) == Int.toNat 1) = true := rfl
  by_cases h64 : a < 64
  · have e3 : IntKind.i64.wrap (Int.tdiv a 64) = 0 := by rw [e1, wrap_id (by omega)]; omega
    rw [e3, if_pos h64]
    simp only [c0, c1, cond_true, cond_false]
    refine W_and (W_yes (by omega) (W_yes (by omega) (W_nthA (W_yes (by omega) ?_))))
    refine W_aI (W_and (W_yes (by omega) (W_yes (by omega) (W_aI (W_aI (W_ret rfl))))))
  · have e3 : IntKind.i64.wrap (Int.tdiv a 64) = 1 := by rw [e1, wrap_id (by omega)]; omega
    rw [e3, if_neg h64]
    simp only [c2, c3, cond_true, cond_false]
    refine W_and (W_yes (by omega) (W_yes (by omega) (W_nthB (W_yes (by omega) ?_))))
    refine W_aI (W_and (W_yes (by omega) (W_yes (by omega) (W_aI (W_aI (W_ret rfl))))))
def HasX (G : ORC R) : Prop := ∀ (b : Bool) (a : Int) (K : List V → Option R), W (fun o => o = [.bool (decide (a ∈ cfOf b))]) K (G 69 [.agg [.int .u64 (loOf b), .int .u64 0], .int .i64 a] K)
theorem has_all : ∀ b : Bool, ∀ i : Fin 128, (((wiF (loOf b) 0 (i.val : Int)).1 == loOf b) && (((wiF (loOf b) 0 (i.val : Int)).2 == 0) && true)) = decide ((i.val : Int) ∈ cfOf b) := by decide +kernel
theorem cf_in {b : Bool} {a : Int} (h : a ∈ cfOf b) : 0 ≤ a ∧ a < 128 := by
  unfold cfOf at h; cases b <;> simp at h <;> omega
theorem hasx_ok (hW : WiX G) (hI : InX G) : HasX (fun _ args (K : List V → Option R) => g69 G k args K) := by
  intro b a K
  show W _ K (f69 G k (loOf b) 0 a K)
  unfold f69
  unfold WiX at hW; unfold InX at hI
  refine W_call (hW _ _ _ _) ?_
  rintro _ rfl
  (repeat(with_reducible apply U1))
  by_cases h : inB a = true
  · have hb : 0 ≤ a ∧ a < 128 := by simpa [inB] using h
    obtain ⟨i, rfl⟩ : ∃ i : Nat, a = i := ⟨a.toNat, by omega⟩
    have e := has_all b ⟨i, by omega⟩
    simp only [h, if_true]
    refine W_bool (fun h1 => ?_) (fun h1 => W_ret ?_)
    · refine W_call (hI _ _) ?_
      rintro _ rfl
      (repeat(with_reducible apply U1))
      refine W_ret ?_
      rw [h, ← e, h1]
    · rw [← e, h1]
  · have h' : inB a = false := by simpa using h
    have hn : decide (a ∈ cfOf b) = false := decide_eq_false fun c => by have := cf_in c; simp [inB] at h'; omega
    simp only [h', if_false, Bool.false_eq_true]
    rw [hn]
    refine W_chk (by simp) ?_
    refine W_call (hI _ _) ?_
    rintro _ rfl
    (repeat(with_reducible apply U1))
    exact W_ret (by rw [h'])
def OfX (G : ORC R) : Prop := ∀ (b : Bool) (K : List V → Option R), W (fun o => o = [.agg [.int .u64 (loOf b), .int .u64 0]]) K (G 44 [.sl 1 (iv (cfOf b))] K)
theorem ofx_ok (hk : 1000 ≤ k) (hW : WiX G) : OfX (fun _ args (K : List V → Option R) => g44 G k args K) := by
  intro b K
  show W _ K (f44 G k (iv (cfOf b)) K)
  unfold f44 l44_0
  unfold WiX at hW
  obtain ⟨j, rfl⟩ : ∃ j, k = j + 3 := ⟨k - 3, by omega⟩
  have hl : (iv (cfOf b)).length = 2 := by rw [iv_len]; rfl
  rw [hl]
  have w1 : IntKind.i64.wrap (0 + 1) = 1 := rfl
  have w2 : IntKind.i64.wrap (1 + 1) = 2 := rfl
  show W _ K (b44_0 G (j + 3) (l44_0g G (j + 3) _ (j + 2)) _ (iv (cfOf b)) _ 0 _ _ _ _)
  unfold b44_0
  refine W_yes (by omega) (W_at (v := .int .i64 0) (by omega) rfl (W_aI ?_))
  refine W_call (hW _ _ _ _) ?_
  rintro _ rfl
  (repeat(with_reducible apply U1))
  rw [w1]
  show W _ K (b44_0 G (j + 3) (l44_0g G (j + 3) _ (j + 1)) _ (iv (cfOf b)) _ 1 _ _ _ _)
  unfold b44_0
  refine W_yes (by omega) (W_at (v := .int .i64 (if b then 2 else 1)) (by omega) rfl (W_aI ?_))
  refine W_call (hW _ _ _ _) ?_
  rintro _ rfl
  (repeat(with_reducible apply U1))
  rw [w2]
  show W _ K (b44_0 G (j + 3) (l44_0g G (j + 3) _ j) _ (iv (cfOf b)) _ 2 _ _ _ _)
  unfold b44_0
  refine W_no (by omega) (W_ret ?_)
  cases b <;> kernel_rfl
def SureX (G : ORC R) : Prop := ∀ (n e : Int) (K : List V → Option R), W (fun o => o = if e = 0 then [.bool false, .int .i64 0, .int .i64 n] else [.bool true, .int .i64 e, .int .i64 0]) K (G 70 [.int .i64 n, .int .i64 e] K)
theorem sure_ok : SureX (fun _ args (K : List V → Option R) => g70 G k args K) := by
  intro n e K
  show W _ K (f70 G k n e K)
  unfold f70
  refine W_bool (fun h => W_ret ?_) (fun h => W_ret ?_)
  · rw [if_neg (by simpa using h)]
  · rw [if_pos (by simpa using h)]
def PairX (G : ORC R) : Prop := ∀ (op x y : Int) (K : List V → Option R), 7 ≤ op → op ≤ 17 → InR x → InR y → W (fun o => o = if (twoR op x y).2 = 0 then [.bool false, .int .i64 0, .int .i64 (twoR op x y).1] else [.bool true, .int .i64 (twoR op x y).2, .int .i64 0]) K (G 75 [.int .i64 op, .int .i64 x, .int .i64 y] K)
theorem pair_ok (hM : TwoX 92 (fun a b => over (a * b)) G) (hD : TwoX 93 divR G) (hMo : TwoX 94 modR G) (hA : TwoX 95 (fun a b => over (a + b)) G) (hSu : TwoX 90 (fun a b => over (a - b)) G) (hS : SureX G) (hT : TrX 68 G) : PairX (fun _ args (K : List V → Option R) => g75 G k args K) := by
  intro op x y K h1 h2 hx hy
  show W _ K (f75 G k op x y K)
  unfold TwoX at hM hD hMo hA hSu; unfold SureX at hS; unfold TrX at hT
  have num : ∀ (f : FuncId) (F : Int → Int → Int × Int), (∀ (a b : Int) (K : List V → Option R), InR a → InR b → W (fun o => o = [.int .i64 (F a b).1, .int .i64 (F a b).2]) K (G f [.int .i64 a, .int .i64 b] K)) → twoR op x y = F x y →
      W (fun o => o = if (twoR op x y).2 = 0 then [.bool false, .int .i64 0, .int .i64 (twoR op x y).1] else [.bool true, .int .i64 (twoR op x y).2, .int .i64 0]) K (G f [.int .i64 x, .int .i64 y] fun o4 => (uI .i64 o4 fun n6 r5 => (uI .i64 r5 fun n8 r7 => (unNil r7 (G 70 [(.int .i64 n6), (.int .i64 n8)] fun o9 => (uB o9 fun b11 r10 => (uI .i64 r10 fun n13 r12 => (uI .i64 r12 fun n15 r14 => (unNil r14 (bif b11 then (K [(.bool true), (.int .i64 n13), (.int .i64 0)]) else (K [(.bool false), (.int .i64 0), (.int .i64 n15)]))))))))))) := fun f F hF he => by
    refine W_call (hF _ _ _ hx hy) ?_
    rintro _ rfl
    (repeat(with_reducible apply U1))
    rw [he]
    refine W_call (hS _ _ _) ?_
    rintro _ rfl
    by_cases e0 : (F x y).2 = 0
    · rw [if_pos e0]
      (repeat(with_reducible apply U1))
      exact W_ret rfl
    · rw [if_neg e0]
      (repeat(with_reducible apply U1))
      exact W_ret rfl
  have cmp : ∀ b : Bool, twoR op x y = (tr b, 0) → W (fun o => o = if (twoR op x y).2 = 0 then [.bool false, .int .i64 0, .int .i64 (twoR op x y).1] else [.bool true, .int .i64 (twoR op x y).2, .int .i64 0]) K (G 68 [(.bool b)] fun o64 => (uI .i64 o64 fun n66 r65 => (unNil r65 (K [(.bool false), (.int .i64 0), (.int .i64 n66)])))) := fun b he => by
    refine W_call (hT _ _) ?_
    rintro _ rfl
    (repeat(with_reducible apply U1))
    rw [he]
    exact W_ret rfl
  unfold f75
  refine W_beqI (fun e => num _ _ hM (by unfold twoR; simp [e])) (fun e7 => ?_)
  refine W_beqI (fun e => num _ _ hD (by unfold twoR; simp [e])) (fun e8 => ?_)
  refine W_beqI (fun e => num _ _ hMo (by unfold twoR; simp [e])) (fun e9 => ?_)
  refine W_beqI (fun e => num _ _ hA (by unfold twoR; simp [e])) (fun e10 => ?_)
  refine W_beqI (fun e => num _ _ hSu (by unfold twoR; simp [e])) (fun e11 => ?_)
  refine W_beqI (fun e => cmp _ (by unfold twoR; simp [e])) (fun e12 => ?_)
  refine W_beqI (fun e => cmp _ (by unfold twoR; simp [e])) (fun e13 => ?_)
  refine W_beqI (fun e => cmp _ (by unfold twoR; simp [e])) (fun e14 => ?_)
  refine W_beqI (fun e => cmp _ (by unfold twoR; simp [e])) (fun e15 => ?_)
  refine W_beqI (fun e => cmp _ (by unfold twoR; simp [e])) (fun e16 => cmp _ (by unfold twoR; simp [e7, e8, e9, e10, e11, e12, e13, e14, e15, e16]))
end
section
variable {R : Type} {G : ORC R} {k : Nat} {K : List V → Option R} {Q : List V → Prop}
theorem W_show {x y : Option R} (h : x = y) (hy : W Q K y) : W Q K x := by rw [h]; exact hy
theorem W_neY {a b : Int} {A B : Option R} (h : a ≠ b) (h1 : W Q K A) : W Q K (bif a != b then A else B) := by rw [bne, beq_eq_false_iff_ne.2 h]; exact h1
theorem W_neN {a b : Int} {A B : Option R} (h : a = b) (h1 : W Q K B) : W Q K (bif a != b then A else B) := by rw [bne, beq_iff_eq.2 h]; exact h1
theorem gl {E : List V} {v : V} : (E ++ [v])[((E.length : Nat) : Int).toNat]? = some v := by rw [Int.toNat_natCast]; simp
theorem tl {E : List V} {v : V} : (E ++ [v]).take ((E.length : Nat) : Int).toNat = E := by rw [Int.toNat_natCast]; simp
theorem sl {E : List V} {v w : V} : (E ++ [v]).set ((E.length : Nat) : Int).toNat w = E ++ [w] := by rw [Int.toNat_natCast]; simp
theorem wl {E : List V} {v : V} (h : E.length ≤ 1000000000) : IntKind.i64.wrap ((((E ++ [v]).length : Nat) : Int) - 1) = E.length := by
  rw [List.length_append, List.length_singleton, wrap_id (by omega)]; omega
def TakeX (G : ORC R) : Prop := ∀ (x : Int) (c : List V) (lo hi g : Int) (R1 R2 : List V) (p val : Int) (vs ra ef : List V) (co cd : Int) (K : List V → Option R), R1.length ≤ 1000000000 → W (fun o => o = [.int .i64 x, .int .u64 lo, .int .u64 hi, .int .i64 g, .sl 1 R1, .sl 1 R2, .int .i64 p, .int .i64 val, .sl 1 vs, .sl 2 ra, .sl 4 ef, .int .i64 co, .int .i64 cd]) K (G 72 [.sl 4 c, .int .u64 lo, .int .u64 hi, .int .i64 g, .sl 1 (R1 ++ [.int .i64 x]), .sl 1 R2, .int .i64 p, .int .i64 val, .sl 1 vs, .sl 2 ra, .sl 4 ef, .int .i64 co, .int .i64 cd] K)
theorem take_ok : TakeX (fun _ args (K : List V → Option R) => g72 G k args K) := by
  intro x c lo hi g R1 R2 p val vs ra ef co cd K hl
  refine W_show (y := f72 G k c lo hi g (R1 ++ [.int .i64 x]) R2 p val vs ra ef co cd K) (by kernel_rfl) ?_
  unfold f72
  rw [wl hl]
  refine W_at (by omega) gl (W_aI (W_and (W_yes (by omega) (W_yes (by rw [List.length_append]; omega) ?_))))
  rw [tl]
  exact W_ret rfl
def MPutX (G : ORC R) : Prop := ∀ (n : Int) (c : List V) (lo hi g : Int) (R1 R2 : List V) (p val : Int) (vs ra ef : List V) (co cd : Int) (K : List V → Option R), R1.length ≤ 1000000000 → W (fun o => o = [.int .u64 lo, .int .u64 hi, .int .i64 g, .sl 1 (R1 ++ [.int .i64 n]), .sl 1 R2, .int .i64 p, .int .i64 val, .sl 1 vs, .sl 2 ra, .sl 4 ef, .int .i64 co, .int .i64 cd]) K (G 67 [.int .i64 n, .sl 4 c, .int .u64 lo, .int .u64 hi, .int .i64 g, .sl 1 R1, .sl 1 R2, .int .i64 p, .int .i64 val, .sl 1 vs, .sl 2 ra, .sl 4 ef, .int .i64 co, .int .i64 cd] K)
theorem put_ok : MPutX (fun _ args (K : List V → Option R) => g67 G k args K) := by
  intro n c lo hi g R1 R2 p val vs ra ef co cd K hl
  refine W_show (y := f67 G k n c lo hi g R1 R2 p val vs ra ef co cd K) (by kernel_rfl) ?_
  unfold f67
  exact W_yes (by omega) (W_ret rfl)
def EffX (G : ORC R) : Prop := ∀ (kd a : Int) (s : ByteArray) (n : Int) (c : List V) (lo hi g : Int) (R1 R2 : List V) (p val : Int) (vs ra ef : List V) (co cd : Int) (K : List V → Option R), ef.length ≤ 1000000000 → W (fun o => o = [.int .u64 lo, .int .u64 hi, .int .i64 g, .sl 1 R1, .sl 1 R2, .int .i64 p, .int .i64 val, .sl 1 vs, .sl 2 ra, .sl 4 (ef ++ [.agg [.int .i64 kd, .int .i64 a, .str s, .int .i64 n]]), .int .i64 co, .int .i64 cd]) K (G 91 [.int .i64 kd, .int .i64 a, .agg [.str s, .int .i64 n], .sl 4 c, .int .u64 lo, .int .u64 hi, .int .i64 g, .sl 1 R1, .sl 1 R2, .int .i64 p, .int .i64 val, .sl 1 vs, .sl 2 ra, .sl 4 ef, .int .i64 co, .int .i64 cd] K)
theorem eff_ok : EffX (fun _ args (K : List V → Option R) => g91 G k args K) := by
  intro kd a s n c lo hi g R1 R2 p val vs ra ef co cd K hl
  refine W_show (y := f91 G k kd a s n c lo hi g R1 R2 p val vs ra ef co cd K) (by kernel_rfl) ?_
  unfold f91
  exact W_yes (by omega) (W_ret rfl)
def oE (lo hi g val co cd : Int) (st : St) : List V := [.int .u64 lo, .int .u64 hi, .int .i64 g, .sl 1 (iv st.row), .sl 1 (iv st.rnd), .int .i64 st.pc, .int .i64 val, .sl 1 (iv st.vs), .sl 2 st.ra, .sl 4 st.ef, .int .i64 co, .int .i64 cd]
def Small (st : St) : Prop := 0 ≤ st.pc ∧ st.pc ≤ 1000000 ∧ st.row.length ≤ 100000000 ∧ st.rnd.length ≤ 100000000 ∧ st.ra.length ≤ 100000000 ∧ st.ef.length ≤ 100000000
def Out (lo hi g val co cd : Int) (st : St) (e : Int) (st' : St) (o : List V) : Prop := if e = 0 then o = .bool false :: .int .i64 0 :: oE lo hi g val co cd st' else ∃ st2 : St, o = .bool true :: .int .i64 e :: oE lo hi g val co cd st2 ∧ st2.vs = st.vs ∧ st2.ra = st.ra ∧ st2.ef = st.ef
theorem out0 {lo hi g val co cd : Int} {st st' : St} {o : List V} (h : o = .bool false :: .int .i64 0 :: oE lo hi g val co cd st') : Out lo hi g val co cd st 0 st' o := by unfold Out; rw [if_pos rfl]; exact h
def TellX (G : ORC R) : Prop := ∀ (b : Bool) (g op a n : Int) (s : ByteArray) (st : St) (e : Int) (st' : St) (c : List V) (val co cd : Int) (K : List V → Option R), Stp b g op a n s st e st' → 19 ≤ op → op ≤ 22 → Small st →
  W (Out (loOf b) 0 g val co cd st e st') K (G 73 (insS op a n s :: .sl 4 c :: oE (loOf b) 0 g val co cd { st with pc := st.pc + 1 }) K)
theorem tell_ok (hT : TakeX G) (hE : EffX G) : TellX (fun _ args (K : List V → Option R) => g73 G k args K) := by
  intro b g op a n s st e st' c val co cd K h h1 h2 hs
  refine W_show (y := f73 G k op a n s c (loOf b) 0 g (iv st.row) (iv st.rnd) (st.pc + 1) val (iv st.vs) st.ra st.ef co cd K) (by kernel_rfl) ?_
  unfold f73
  unfold TakeX at hT; unfold EffX at hE; unfold Small at hs
  cases h <;> first | omega | skip
  · dsimp only at hs ⊢
    rw [iv_snoc]
    refine W_neY (by omega) (W_call (hT _ _ _ _ _ _ _ _ _ _ _ _ _ _ _ (by rw [iv_len]; simp at hs; omega)) ?_)
    rintro _ rfl
    (repeat(with_reducible apply U1))
    exact W_eqY rfl (W_yes (by omega) (W_ret (out0 rfl)))
  · dsimp only at hs ⊢
    rw [iv_snoc]
    refine W_neY (by omega) (W_call (hT _ _ _ _ _ _ _ _ _ _ _ _ _ _ _ (by rw [iv_len]; simp at hs; omega)) ?_)
    rintro _ rfl
    (repeat(with_reducible apply U1))
    refine W_eqN (by omega) (W_eqY rfl (W_call (hE _ _ _ _ _ _ _ _ _ _ _ _ _ _ _ _ _ _ (by omega)) ?_))
    rintro _ rfl
    (repeat(with_reducible apply U1))
    exact W_ret (out0 rfl)
  · dsimp only at hs ⊢
    rw [iv_snoc]
    refine W_neY (by omega) (W_call (hT _ _ _ _ _ _ _ _ _ _ _ _ _ _ _ (by rw [iv_len]; simp at hs; omega)) ?_)
    rintro _ rfl
    (repeat(with_reducible apply U1))
    refine W_eqN (by omega) (W_eqN (by omega) (W_eqY rfl (W_no (by omega) (W_no (by omega) (W_call (hE _ _ _ _ _ _ _ _ _ _ _ _ _ _ _ _ _ _ (by omega)) ?_)))))
    rintro _ rfl
    (repeat(with_reducible apply U1))
    exact W_ret (out0 rfl)
  · rename_i hx
    dsimp only at hs ⊢
    rw [iv_snoc]
    refine W_neY (by omega) (W_call (hT _ _ _ _ _ _ _ _ _ _ _ _ _ _ _ (by rw [iv_len]; simp at hs; omega)) ?_)
    rintro _ rfl
    (repeat(with_reducible apply U1))
    have fin : ∀ {p : Int} {l r v : List Int} {ra ef : List V} {x : Int}, Out (loOf b) 0 g val co cd ⟨p, l ++ [x], r, v, ra, ef⟩ 1 ⟨p + 1, l, r, v, ra, ef⟩ (.bool true :: .int .i64 1 :: oE (loOf b) 0 g val co cd ⟨p + 1, l, r, v, ra, ef⟩) := fun {p l r v ra ef x} => by
      unfold Out; rw [if_neg (by omega)]; exact ⟨⟨p + 1, l, r, v, ra, ef⟩, rfl, rfl, rfl, rfl⟩
    refine W_eqN (by omega) (W_eqN (by omega) (W_eqY rfl ?_))
    refine W_dec (fun _ => W_ret fin) (fun _ => W_dec (fun _ => W_ret fin) (fun _ => by omega))
  · dsimp only at hs ⊢
    refine W_neN rfl (W_eqN (by omega) (W_eqN (by omega) (W_eqN (by omega) (W_call (hE _ _ _ _ _ _ _ _ _ _ _ _ _ _ _ _ _ _ (by omega)) ?_))))
    rintro _ rfl
    (repeat(with_reducible apply U1))
    exact W_ret (out0 rfl)
def MoveX (G : ORC R) : Prop := ∀ (b : Bool) (g op a n : Int) (s : ByteArray) (st : St) (e : Int) (st' : St) (c : List V) (val co cd : Int) (K : List V → Option R), Stp b g op a n s st e st' → 23 ≤ op → Small st →
  W (fun o => e = 0 ∧ o = oE (loOf b) 0 g val co cd st') K (G 74 (insS op a n s :: .sl 4 c :: oE (loOf b) 0 g val co cd { st with pc := st.pc + 1 }) K)
theorem move_ok (hT : TakeX G) : MoveX (fun _ args (K : List V → Option R) => g74 G k args K) := by
  intro b g op a n s st e st' c val co cd K h h1 hs
  refine W_show (y := f74 G k op a n s c (loOf b) 0 g (iv st.row) (iv st.rnd) (st.pc + 1) val (iv st.vs) st.ra st.ef co cd K) (by kernel_rfl) ?_
  unfold f74
  unfold TakeX at hT; unfold Small at hs
  cases h <;> first | omega | skip
  · exact W_eqY rfl (W_ret ⟨rfl, rfl⟩)
  · dsimp only at hs ⊢
    rw [iv_snoc]
    refine W_eqN (by omega) (W_eqY rfl (W_call (hT _ _ _ _ _ _ _ _ _ _ _ _ _ _ _ (by rw [iv_len]; simp at hs; omega)) ?_))
    rintro _ rfl
    (repeat(with_reducible apply U1))
    refine W_beqI (fun hx => W_ret ⟨rfl, ?_⟩) (fun hx => W_ret ⟨rfl, ?_⟩)
    · rw [if_pos hx]; rfl
    · rw [if_neg hx]; rfl
  · dsimp only at hs ⊢
    refine W_eqN (by omega) (W_eqN (by omega) (W_eqY rfl (W_yes (by rw [iv_len]; omega) (W_ret ⟨rfl, ?_⟩))))
    rw [← iv_snoc]; rfl
  · rename_i hi hi2 hx hx2
    dsimp only at hs ⊢
    rw [iv_snoc, wl (by rw [iv_len]; simp at hs; omega)]
    refine W_eqN (by omega) (W_eqN (by omega) (W_eqN (by omega) ?_))
    refine W_at (by omega) gl (W_aI ?_)
    refine W_at (by omega) gl ?_
    rw [wrap_id (by omega), sl]
    refine W_at (by omega) gl (W_aI (W_yes (by omega) (W_ret ⟨rfl, ?_⟩)))
    rw [← iv_snoc, wrap_id (by omega)]; rfl
  · rename_i hx hx2
    dsimp only at hs ⊢
    rw [iv_snoc, wl (by rw [iv_len]; simp at hs; omega)]
    refine W_eqN (by omega) (W_eqN (by omega) (W_eqN (by omega) ?_))
    refine W_at (by omega) gl (W_aI ?_)
    refine W_at (by omega) gl ?_
    rw [wrap_id (by omega), sl]
    refine W_at (by omega) gl (W_aI (W_no (by omega) ?_))
    refine W_and (W_yes (by omega) (W_yes (by rw [List.length_append]; omega) ?_))
    rw [tl]
    exact W_ret ⟨rfl, rfl⟩
end
section
variable {R : Type} {G : ORC R} {k : Nat} {K : List V → Option R} {Q : List V → Prop}
theorem outE {lo hi g val co cd : Int} {st st' : St} {e : Int} {o : List V} (he : e ≠ 0) (st2 : St) (h : o = .bool true :: .int .i64 e :: oE lo hi g val co cd st2) (h1 : st2.vs = st.vs) (h2 : st2.ra = st.ra) (h3 : st2.ef = st.ef) : Out lo hi g val co cd st e st' o := by unfold Out; rw [if_neg he]; exact ⟨st2, h, h1, h2, h3⟩
def StepX (G : ORC R) : Prop := ∀ (b : Bool) (g op a n : Int) (s : ByteArray) (st : St) (e : Int) (st' : St) (c : List V) (val co cd : Int) (K : List V → Option R), Stp b g op a n s st e st' → InR g → Small st →
  W (Out (loOf b) 0 g val co cd st e st') K (G 46 (insS op a n s :: .sl 4 c :: oE (loOf b) 0 g val co cd st) K)
theorem step_ok (hT : TakeX G) (hP : MPutX G) (hTe : TellX G) (hM : MoveX G) (hH : HasX G) (hTr : TrX 68 G) (hN : OneX 71 G) (hS : SureX G) (hPa : PairX G) : StepX (fun _ args (K : List V → Option R) => g46 G k args K) := by
  intro b g op a n s st e st' c val co cd K h hg hs
  refine W_show (y := f46 G k op a n s c (loOf b) 0 g (iv st.row) (iv st.rnd) st.pc val (iv st.vs) st.ra st.ef co cd K) (by kernel_rfl) ?_
  have hs0 := hs
  unfold Small at hs
  by_cases hop : 19 ≤ op
  · have htell : op ≤ 22 → W (Out (loOf b) 0 g val co cd st e st') K (G 73 [(.agg [(.int .i64 op), (.int .i64 a), (.int .i64 n), (.str s)]), (.sl 4 c), (.int .u64 (loOf b)), (.int .u64 0), (.int .i64 g), (.sl 1 (iv st.row)), (.sl 1 (iv st.rnd)), (.int .i64 (st.pc + 1)), (.int .i64 val), (.sl 1 (iv st.vs)), (.sl 2 st.ra), (.sl 4 st.ef), (.int .i64 co), (.int .i64 cd)] K) := fun h2 => by
      unfold TellX at hTe; exact hTe b g op a n s st e st' c val co cd K h hop h2 hs0
    have htell' : op ≤ 22 → W (Out (loOf b) 0 g val co cd st e st') K (G 73 [(.agg [(.int .i64 op), (.int .i64 a), (.int .i64 n), (.str s)]), (.sl 4 c), (.int .u64 (loOf b)), (.int .u64 0), (.int .i64 g), (.sl 1 (iv st.row)), (.sl 1 (iv st.rnd)), (.int .i64 (st.pc + 1)), (.int .i64 val), (.sl 1 (iv st.vs)), (.sl 2 st.ra), (.sl 4 st.ef), (.int .i64 co), (.int .i64 cd)] fun o273 => uB o273 fun b275 r274 => uI .i64 r274 fun n277 r276 => uI .u64 r276 fun n279 r278 => uI .u64 r278 fun n281 r280 => uI .i64 r280 fun n283 r282 => uL 1 r282 fun l285 r284 => uL 1 r284 fun l287 r286 => uI .i64 r286 fun n289 r288 => uI .i64 r288 fun n291 r290 => uL 1 r290 fun l293 r292 => uL 2 r292 fun l295 r294 => uL 4 r294 fun l297 r296 => uI .i64 r296 fun n299 r298 => uI .i64 r298 fun n301 r300 => unNil r300 (bif b275 then (K [(.bool true), (.int .i64 n277), (.int .u64 n279), (.int .u64 n281), (.int .i64 n283), (.sl 1 l285), (.sl 1 l287), (.int .i64 n289), (.int .i64 n291), (.sl 1 l293), (.sl 2 l295), (.sl 4 l297), (.int .i64 n299), (.int .i64 n301)]) else (K [(.bool false), (.int .i64 0), (.int .u64 n279), (.int .u64 n281), (.int .i64 n283), (.sl 1 l285), (.sl 1 l287), (.int .i64 n289), (.int .i64 n291), (.sl 1 l293), (.sl 2 l295), (.sl 4 l297), (.int .i64 n299), (.int .i64 n301)]))) := fun h2 => by
      unfold TellX at hTe
      refine W_call (hTe b g op a n s st e st' c val co cd _ h hop h2 hs0) ?_
      intro o ho
      have ho0 := ho
      unfold Out at ho
      by_cases e0 : e = 0
      · rw [if_pos e0] at ho
        subst ho
        unfold oE at ho0 ⊢
        (repeat(with_reducible apply U1))
        exact W_ret ho0
      · rw [if_neg e0] at ho
        obtain ⟨st2, rfl, _⟩ := ho
        unfold oE at ho0 ⊢
        (repeat(with_reducible apply U1))
        exact W_ret ho0
    have hmove : 23 ≤ op → W (Out (loOf b) 0 g val co cd st e st') K (G 74 [(.agg [(.int .i64 op), (.int .i64 a), (.int .i64 n), (.str s)]), (.sl 4 c), (.int .u64 (loOf b)), (.int .u64 0), (.int .i64 g), (.sl 1 (iv st.row)), (.sl 1 (iv st.rnd)), (.int .i64 (st.pc + 1)), (.int .i64 val), (.sl 1 (iv st.vs)), (.sl 2 st.ra), (.sl 4 st.ef), (.int .i64 co), (.int .i64 cd)] fun o302 => uI .u64 o302 fun n304 r303 => uI .u64 r303 fun n306 r305 => uI .i64 r305 fun n308 r307 => uL 1 r307 fun l310 r309 => uL 1 r309 fun l312 r311 => uI .i64 r311 fun n314 r313 => uI .i64 r313 fun n316 r315 => uL 1 r315 fun l318 r317 => uL 2 r317 fun l320 r319 => uL 4 r319 fun l322 r321 => uI .i64 r321 fun n324 r323 => uI .i64 r323 fun n326 r325 => unNil r325 (K [(.bool false), (.int .i64 0), (.int .u64 n304), (.int .u64 n306), (.int .i64 n308), (.sl 1 l310), (.sl 1 l312), (.int .i64 n314), (.int .i64 n316), (.sl 1 l318), (.sl 2 l320), (.sl 4 l322), (.int .i64 n324), (.int .i64 n326)])) := fun h2 => by
      unfold MoveX at hM
      refine W_call (hM b g op a n s st e st' c val co cd _ h h2 hs0) ?_
      rintro _ ⟨rfl, rfl⟩
      unfold oE
      (repeat(with_reducible apply U1))
      exact W_ret (out0 rfl)
    have hop2 : op ≤ 26 := by cases h <;> omega
    unfold f46
    rw [wrap_id (n := st.pc + 1) (by omega)]
    clear hTe hM hT hP hH hTr hN hS hPa h hs hs0
    repeat' (first | (with_reducible exact htell' (by omega)) | (with_reducible exact hmove (by omega)) | (with_reducible (refine W_beqI (fun _ => ?_) (fun _ => ?_))) | (exfalso; omega))
  · have hl : st.row.length ≤ 100000000 := hs.2.2.1
    unfold TakeX at hT; unfold MPutX at hP; unfold HasX at hH; unfold TrX at hTr; unfold OneX at hN; unfold SureX at hS; unfold PairX at hPa
    cases h <;> first | (exfalso; omega) | skip
    all_goals dsimp only at hs hl ⊢
    all_goals unfold f46
    all_goals rw [wrap_id (by omega)]
    · refine W_eqY rfl (W_call (hP _ _ _ _ _ _ _ _ _ _ _ _ _ _ _ (by rw [iv_len]; omega)) ?_)
      rintro _ rfl
      (repeat(with_reducible apply U1))
      exact W_ret (out0 (by simp only [oE, iv_snoc]))
    · rename_i hv
      refine W_eqN (by omega) (W_eqY rfl (W_at (by omega) (by rw [Int.toNat_natCast]; exact iv_get hv) (W_aI (W_call (hP _ _ _ _ _ _ _ _ _ _ _ _ _ _ _ (by rw [iv_len]; omega)) ?_))))
      rintro _ rfl
      (repeat(with_reducible apply U1))
      exact W_ret (out0 (by simp only [oE, iv_snoc]))
    · refine W_eqN (by omega) (W_eqN (by omega) (W_eqY rfl (W_call (hP _ _ _ _ _ _ _ _ _ _ _ _ _ _ _ (by rw [iv_len]; omega)) ?_)))
      rintro _ rfl
      (repeat(with_reducible apply U1))
      exact W_ret (out0 (by simp only [oE, iv_snoc]))
    · refine W_eqN (by omega) (W_eqN (by omega) (W_eqN (by omega) (W_eqY rfl (W_call (hH _ _ _) ?_))))
      rintro _ rfl
      (repeat(with_reducible apply U1))
      refine W_call (hTr _ _) ?_
      rintro _ rfl
      (repeat(with_reducible apply U1))
      refine W_call (hP _ _ _ _ _ _ _ _ _ _ _ _ _ _ _ (by rw [iv_len]; omega)) ?_
      rintro _ rfl
      (repeat(with_reducible apply U1))
      exact W_ret (out0 (by simp only [oE, iv_snoc]))
    · rename_i hx
      rw [List.length_append] at hl
      rw [iv_snoc]
      refine W_eqN (by omega) (W_eqN (by omega) (W_eqN (by omega) (W_eqN (by omega) (W_eqY rfl (W_call (hT _ _ _ _ _ _ _ _ _ _ _ _ _ _ _ (by rw [iv_len]; omega)) ?_)))))
      rintro _ rfl
      (repeat(with_reducible apply U1))
      refine W_call (hN _ _ hx) ?_
      rintro _ rfl
      (repeat(with_reducible apply U1))
      refine W_call (hS _ _ _) ?_
      rintro _ rfl
      rename_i x
      by_cases e0 : (over (0 - x)).2 = 0
      · rw [if_pos e0]
        (repeat(with_reducible apply U1))
        refine W_call (hP _ _ _ _ _ _ _ _ _ _ _ _ _ _ _ (by rw [iv_len]; omega)) ?_
        rintro _ rfl
        (repeat(with_reducible apply U1))
        refine W_ret ?_
        rw [e0]
        exact out0 (by simp only [oE, iv_snoc])
      · rw [if_neg e0]
        (repeat(with_reducible apply U1))
        exact W_ret (outE e0 ⟨_, _, _, _, _, _⟩ rfl rfl rfl rfl)
    · rw [List.length_append] at hl
      rw [iv_snoc]
      refine W_eqN (by omega) (W_eqN (by omega) (W_eqN (by omega) (W_eqN (by omega) (W_eqN (by omega) (W_eqY rfl (W_call (hT _ _ _ _ _ _ _ _ _ _ _ _ _ _ _ (by rw [iv_len]; omega)) ?_))))))
      rintro _ rfl
      (repeat(with_reducible apply U1))
      refine W_call (hTr _ _) ?_
      rintro _ rfl
      (repeat(with_reducible apply U1))
      refine W_call (hP _ _ _ _ _ _ _ _ _ _ _ _ _ _ _ (by rw [iv_len]; omega)) ?_
      rintro _ rfl
      (repeat(with_reducible apply U1))
      exact W_ret (out0 (by simp only [oE, iv_snoc]))
    · rename_i p l r v ra ef x y hx hy h1 h2
      have fin : W (Out (loOf b) 0 g val co cd ⟨p, l ++ [x] ++ [y], r, v, ra, ef⟩ (twoR op x y).2 ⟨p + 1, l ++ [(twoR op x y).1], r, v, ra, ef⟩) K (G 72 [(.sl 4 c), (.int .u64 (loOf b)), (.int .u64 0), (.int .i64 g), (.sl 1 (iv (l ++ [x] ++ [y]))), (.sl 1 (iv r)), (.int .i64 (p + 1)), (.int .i64 val), (.sl 1 (iv v)), (.sl 2 ra), (.sl 4 ef), (.int .i64 co), (.int .i64 cd)] fun o327 => uI .i64 o327 fun n329 r328 => uI .u64 r328 fun n331 r330 => uI .u64 r330 fun n333 r332 => uI .i64 r332 fun n335 r334 => uL 1 r334 fun l337 r336 => uL 1 r336 fun l339 r338 => uI .i64 r338 fun n341 r340 => uI .i64 r340 fun n343 r342 => uL 1 r342 fun l345 r344 => uL 2 r344 fun l347 r346 => uL 4 r346 fun l349 r348 => uI .i64 r348 fun n351 r350 => uI .i64 r350 fun n353 r352 => unNil r352 (G 72 [(.sl 4 c), (.int .u64 n331), (.int .u64 n333), (.int .i64 n335), (.sl 1 l337), (.sl 1 l339), (.int .i64 n341), (.int .i64 n343), (.sl 1 l345), (.sl 2 l347), (.sl 4 l349), (.int .i64 n351), (.int .i64 n353)] fun o354 => uI .i64 o354 fun n356 r355 => uI .u64 r355 fun n358 r357 => uI .u64 r357 fun n360 r359 => uI .i64 r359 fun n362 r361 => uL 1 r361 fun l364 r363 => uL 1 r363 fun l366 r365 => uI .i64 r365 fun n368 r367 => uI .i64 r367 fun n370 r369 => uL 1 r369 fun l372 r371 => uL 2 r371 fun l374 r373 => uL 4 r373 fun l376 r375 => uI .i64 r375 fun n378 r377 => uI .i64 r377 fun n380 r379 => unNil r379 (G 75 [(.int .i64 op), (.int .i64 n356), (.int .i64 n329)] fun o381 => uB o381 fun b383 r382 => uI .i64 r382 fun n385 r384 => uI .i64 r384 fun n387 r386 => unNil r386 (bif b383 then (K [(.bool true), (.int .i64 n385), (.int .u64 n358), (.int .u64 n360), (.int .i64 n362), (.sl 1 l364), (.sl 1 l366), (.int .i64 n368), (.int .i64 n370), (.sl 1 l372), (.sl 2 l374), (.sl 4 l376), (.int .i64 n378), (.int .i64 n380)]) else (G 67 [(.int .i64 n387), (.sl 4 c), (.int .u64 n358), (.int .u64 n360), (.int .i64 n362), (.sl 1 l364), (.sl 1 l366), (.int .i64 n368), (.int .i64 n370), (.sl 1 l372), (.sl 2 l374), (.sl 4 l376), (.int .i64 n378), (.int .i64 n380)] fun o388 => uI .u64 o388 fun n390 r389 => uI .u64 r389 fun n392 r391 => uI .i64 r391 fun n394 r393 => uL 1 r393 fun l396 r395 => uL 1 r395 fun l398 r397 => uI .i64 r397 fun n400 r399 => uI .i64 r399 fun n402 r401 => uL 1 r401 fun l404 r403 => uL 2 r403 fun l406 r405 => uL 4 r405 fun l408 r407 => uI .i64 r407 fun n410 r409 => uI .i64 r409 fun n412 r411 => unNil r411 (K [(.bool false), (.int .i64 0), (.int .u64 n390), (.int .u64 n392), (.int .i64 n394), (.sl 1 l396), (.sl 1 l398), (.int .i64 n400), (.int .i64 n402), (.sl 1 l404), (.sl 2 l406), (.sl 4 l408), (.int .i64 n410), (.int .i64 n412)])))))) := by
        rw [List.length_append, List.length_append] at hl
        rw [iv_snoc]
        refine W_call (hT _ _ _ _ _ _ _ _ _ _ _ _ _ _ _ (by rw [iv_len, List.length_append]; omega)) ?_
        rintro _ rfl
        (repeat(with_reducible apply U1))
        rw [iv_snoc]
        refine W_call (hT _ _ _ _ _ _ _ _ _ _ _ _ _ _ _ (by rw [iv_len]; omega)) ?_
        rintro _ rfl
        (repeat(with_reducible apply U1))
        refine W_call (hPa _ _ _ _ h1 h2 hx hy) ?_
        rintro _ rfl
        by_cases e0 : (twoR op x y).2 = 0
        · rw [if_pos e0]
          (repeat(with_reducible apply U1))
          refine W_call (hP _ _ _ _ _ _ _ _ _ _ _ _ _ _ _ (by rw [iv_len]; omega)) ?_
          rintro _ rfl
          (repeat(with_reducible apply U1))
          refine W_ret ?_
          rw [e0]
          exact out0 (by simp only [oE, iv_snoc])
        · rw [if_neg e0]
          (repeat(with_reducible apply U1))
          exact W_ret (outE e0 ⟨_, _, _, _, _, _⟩ rfl rfl rfl rfl)
      clear hT hP hH hTr hN hS hPa hs hs0
      repeat' (first | (with_reducible exact fin) | (with_reducible (refine W_eqN ?_ ?_)); (focus omega) | (with_reducible (refine W_beqI (fun _ => ?_) (fun _ => ?_))) | (exfalso; omega))
    · rename_i hi
      rw [List.length_append] at hl
      rw [iv_snoc]
      refine W_eqN (by omega) (W_eqN (by omega) (W_eqN (by omega) (W_eqN (by omega) (W_eqN (by omega) (W_eqN (by omega) (W_eqY rfl (W_call (hT _ _ _ _ _ _ _ _ _ _ _ _ _ _ _ (by rw [iv_len]; omega)) ?_)))))))
      rintro _ rfl
      (repeat(with_reducible apply U1))
      refine W_at (by omega) (by rw [Int.toNat_natCast]; exact iv_get (List.getElem?_eq_getElem hi)) (W_ret (out0 ?_))
      rw [Int.toNat_natCast, iv_set]; rfl
end
section
variable {R : Type} {G : ORC R} {k : Nat} {K : List V → Option R} {Q : List V → Prop}
end
end Go.Proofs.Ytdfjodnkplbffaa.Vm
