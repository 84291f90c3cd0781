/- Functions of the program, told by the machine of values, and what they answer: a part. -/
import Derived.Test.YtfkofdjpdbfjgaaMaV3
import Derived.Test.YtfkofdjpdbfjgaaProg
import Derived.KernelRfl
import Derived.Test.YtfkofdjpdbfjgaaMaV5
import Derived.Test.YtfkofdjpdbfjgaaMaV4
import Derived.Shelf.Slices.Reverse
import Derived.Tactics
import Derived.Tactics2
import Derived.Laws.Pointers
import Derived.Laws.CopyRow
import Derived.Laws.IdiomCopy
import Derived.Shelf.Spec.SlicesInsert
import Derived.Shelf.Spec.SlicesInsertGrow
open Go Go.VM
set_option linter.unusedVariables false
set_option maxRecDepth 100000
namespace Go.Proofs.Ytfkofdjpdbfjgaa.Vm
def T2:TyD:={under:=.int .i64,size:=1,bytes:=8,zv:=[((.int .i64 (0:Int)),.pr)],leafs:=[.int .i64],deep:=false}
def T3:TyD:={under:=.int .i64,size:=1,bytes:=8,zv:=[((.int .i64 (0:Int)),.pr)],leafs:=[.int .i64],deep:=false}
def T4:TyD:={under:=.bool,size:=1,bytes:=1,zv:=[((.bool false),.pr)],leafs:=[.bool],deep:=false}
def T5:TyD:={under:=.int .u8,size:=1,bytes:=1,zv:=[((.int .u8 (0:Int)),.pr)],leafs:=[.int .u8],deep:=false}
def T6:TyD:={under:=.int .u8,size:=1,bytes:=1,zv:=[((.int .u8 (0:Int)),.pr)],leafs:=[.int .u8],deep:=false}
def T7:TyD:={under:=.struct [(0,2),(1,3),(2,4),(3,6)],size:=4,bytes:=24,zv:=[((.int .i64 (0:Int)),.pr),((.int .i64 (0:Int)),.pr),((.bool false),.pr),((.int .u8 (0:Int)),.pr)],leafs:=[.int .i64,.int .i64,.bool,.int .u8],deep:=false}
def T8:TyD:={under:=.struct [(0,2),(1,3),(2,4),(3,6)],size:=4,bytes:=24,zv:=[((.int .i64 (0:Int)),.pr),((.int .i64 (0:Int)),.pr),((.bool false),.pr),((.int .u8 (0:Int)),.pr)],leafs:=[.int .i64,.int .i64,.bool,.int .u8],deep:=false}
def T9:TyD:={under:=.string,size:=1,bytes:=16,zv:=[((.str ⟨#[]⟩),.pr)],leafs:=[.string],deep:=false}
def T10:TyD:={under:=.string,size:=1,bytes:=16,zv:=[((.str ⟨#[]⟩),.pr)],leafs:=[.string],deep:=false}
def T23:TyD:={under:=.struct [(0,3),(1,3),(2,3),(3,3),(4,3),(5,3),(6,9)],size:=7,bytes:=64,zv:=[((.int .i64 (0:Int)),.pr),((.int .i64 (0:Int)),.pr),((.int .i64 (0:Int)),.pr),((.int .i64 (0:Int)),.pr),((.int .i64 (0:Int)),.pr),((.int .i64 (0:Int)),.pr),((.str ⟨#[]⟩),.pr)],leafs:=[.int .i64,.int .i64,.int .i64,.int .i64,.int .i64,.int .i64,.string],deep:=false}
def T24:TyD:={under:=.slice 23,size:=1,bytes:=24,zv:=[((.sl 7 []),.own true)],leafs:=[.slice 23],deep:=false}
def T25:TyD:={under:=.slice 3,size:=1,bytes:=24,zv:=[((.sl 1 []),.own true)],leafs:=[.slice 3],deep:=false}
def T26:TyD:={under:=.slice 5,size:=1,bytes:=24,zv:=[((.sl 1 []),.own true)],leafs:=[.slice 5],deep:=false}
def T28:TyD:={under:=.struct [(0,3),(1,3),(2,2),(3,9)],size:=4,bytes:=40,zv:=[((.int .i64 (0:Int)),.pr),((.int .i64 (0:Int)),.pr),((.int .i64 (0:Int)),.pr),((.str ⟨#[]⟩),.pr)],leafs:=[.int .i64,.int .i64,.int .i64,.string],deep:=false}
def T29:TyD:={under:=.slice 28,size:=1,bytes:=24,zv:=[((.sl 4 []),.own true)],leafs:=[.slice 28],deep:=false}
def T30:TyD:={under:=.slice 2,size:=1,bytes:=24,zv:=[((.sl 1 []),.own true)],leafs:=[.slice 2],deep:=false}
def T32:TyD:={under:=.struct [(0,3),(1,3),(2,3),(3,3),(4,3),(5,9)],size:=6,bytes:=56,zv:=[((.int .i64 (0:Int)),.pr),((.int .i64 (0:Int)),.pr),((.int .i64 (0:Int)),.pr),((.int .i64 (0:Int)),.pr),((.int .i64 (0:Int)),.pr),((.str ⟨#[]⟩),.pr)],leafs:=[.int .i64,.int .i64,.int .i64,.int .i64,.int .i64,.string],deep:=false}
def T33:TyD:={under:=.slice 32,size:=1,bytes:=24,zv:=[((.sl 6 []),.own true)],leafs:=[.slice 32],deep:=false}
def T34:TyD:={under:=.slice 29,size:=1,bytes:=24,zv:=[((.sl 1 []),.own true)],leafs:=[.slice 29],deep:=false}
def T35:TyD:={under:=.slice 9,size:=1,bytes:=24,zv:=[((.sl 1 []),.own true)],leafs:=[.slice 9],deep:=false}
def T37:TyD:={under:=.struct [(0,9),(1,3),(2,3),(3,30),(4,35),(5,35),(6,24),(7,33),(8,34)],size:=9,bytes:=176,zv:=[((.str ⟨#[]⟩),.pr),((.int .i64 (0:Int)),.pr),((.int .i64 (0:Int)),.pr),((.sl 1 []),.own true),((.sl 1 []),.own true),((.sl 1 []),.own true),((.sl 7 []),.own true),((.sl 6 []),.own true),((.sl 1 []),.own true)],leafs:=[.string,.int .i64,.int .i64,.slice 2,.slice 9,.slice 9,.slice 23,.slice 32,.slice 29],deep:=false}
def T38:TyD:={under:=.slice 25,size:=1,bytes:=24,zv:=[((.sl 1 []),.own true)],leafs:=[.slice 25],deep:=false}
def T40:TyD:={under:=.struct [(0,25),(1,30),(2,38)],size:=3,bytes:=72,zv:=[((.sl 1 []),.own true),((.sl 1 []),.own true),((.sl 1 []),.own true)],leafs:=[.slice 3,.slice 2,.slice 25],deep:=false}
def T41:TyD:={under:=.slice 46,size:=1,bytes:=24,zv:=[((.sl 2 []),.own true)],leafs:=[.slice 46],deep:=false}
def T43:TyD:={under:=.struct [(0,25),(1,41),(2,3)],size:=3,bytes:=56,zv:=[((.sl 1 []),.own true),((.sl 2 []),.own true),((.int .i64 (0:Int)),.pr)],leafs:=[.slice 3,.slice 46,.int .i64],deep:=false}
def T46:TyD:={under:=.struct [(0,9),(1,2)],size:=2,bytes:=24,zv:=[((.str ⟨#[]⟩),.pr),((.int .i64 (0:Int)),.pr)],leafs:=[.string,.int .i64],deep:=false,cmp:=true}
def T51:TyD:={under:=.slice 62,size:=1,bytes:=24,zv:=[((.sl 4 []),.own true)],leafs:=[.slice 62],deep:=false}
def T53:TyD:={under:=.struct [(0,40),(3,41),(4,51),(5,3)],size:=6,bytes:=128,zv:=[((.sl 1 []),.own true),((.sl 1 []),.own true),((.sl 1 []),.own true),((.sl 2 []),.own true),((.sl 4 []),.own true),((.int .i64 (0:Int)),.pr)],leafs:=[.slice 3,.slice 2,.slice 25,.slice 46,.slice 62,.int .i64],deep:=false}
def T58:TyD:={under:=.struct [(0,40),(3,51),(4,3),(5,3),(6,4)],size:=7,bytes:=120,zv:=[((.sl 1 []),.own true),((.sl 1 []),.own true),((.sl 1 []),.own true),((.sl 4 []),.own true),((.int .i64 (0:Int)),.pr),((.int .i64 (0:Int)),.pr),((.bool false),.pr)],leafs:=[.slice 3,.slice 2,.slice 25,.slice 62,.int .i64,.int .i64,.bool],deep:=false}
def T62:TyD:={under:=.struct [(0,3),(1,3),(2,46)],size:=4,bytes:=40,zv:=[((.int .i64 (0:Int)),.pr),((.int .i64 (0:Int)),.pr),((.str ⟨#[]⟩),.pr),((.int .i64 (0:Int)),.pr)],leafs:=[.int .i64,.int .i64,.string,.int .i64],deep:=false,cmp:=true}
def T64:TyD:={under:=.pointer,size:=1,bytes:=8,zv:=[(.nilp,.pr)],leafs:=[.pointer],deep:=false}
def T65:TyD:={under:=.map 3 4,size:=1,bytes:=8,zv:=[(.undef,.pr)],leafs:=[.map 3 4],deep:=false}
def T67:TyD:={under:=.struct [(0,37),(9,40),(12,2),(13,65),(14,43)],size:=17,bytes:=320,zv:=[((.str ⟨#[]⟩),.pr),((.int .i64 (0:Int)),.pr),((.int .i64 (0:Int)),.pr),((.sl 1 []),.own true),((.sl 1 []),.own true),((.sl 1 []),.own true),((.sl 7 []),.own true),((.sl 6 []),.own true),((.sl 1 []),.own true),((.sl 1 []),.own true),((.sl 1 []),.own true),((.sl 1 []),.own true),((.int .i64 (0:Int)),.pr),(.undef,.pr),((.sl 1 []),.own true),((.sl 2 []),.own true),((.int .i64 (0:Int)),.pr)],leafs:=[.string,.int .i64,.int .i64,.slice 2,.slice 9,.slice 9,.slice 23,.slice 32,.slice 29,.slice 3,.slice 2,.slice 25,.int .i64,.map 3 4,.slice 3,.slice 46,.int .i64],deep:=false}
def T74:TyD:={under:=.pointer,size:=1,bytes:=8,zv:=[(.nilp,.pr)],leafs:=[.pointer],deep:=false}
def T77:TyD:={under:=.struct [(0,37),(9,2),(10,53)],size:=16,bytes:=312,zv:=[((.str ⟨#[]⟩),.pr),((.int .i64 (0:Int)),.pr),((.int .i64 (0:Int)),.pr),((.sl 1 []),.own true),((.sl 1 []),.own true),((.sl 1 []),.own true),((.sl 7 []),.own true),((.sl 6 []),.own true),((.sl 1 []),.own true),((.int .i64 (0:Int)),.pr),((.sl 1 []),.own true),((.sl 1 []),.own true),((.sl 1 []),.own true),((.sl 2 []),.own true),((.sl 4 []),.own true),((.int .i64 (0:Int)),.pr)],leafs:=[.string,.int .i64,.int .i64,.slice 2,.slice 9,.slice 9,.slice 23,.slice 32,.slice 29,.int .i64,.slice 3,.slice 2,.slice 25,.slice 46,.slice 62,.int .i64],deep:=false}
def T78:TyD:={under:=.slice 80,size:=1,bytes:=24,zv:=[((.sl 2 []),.own true)],leafs:=[.slice 80],deep:=false}
def T80:TyD:={under:=.struct [(0,3),(1,3)],size:=2,bytes:=16,zv:=[((.int .i64 (0:Int)),.pr),((.int .i64 (0:Int)),.pr)],leafs:=[.int .i64,.int .i64],deep:=false}
def T81:TyD:={under:=.pointer,size:=1,bytes:=8,zv:=[(.nilp,.pr)],leafs:=[.pointer],deep:=false}
def T90:TyD:={under:=.pointer,size:=1,bytes:=8,zv:=[(.nilp,.pr)],leafs:=[.pointer],deep:=false}
def T92:TyD:={under:=.struct [(0,37),(9,58),(16,41)],size:=17,bytes:=320,zv:=[((.str ⟨#[]⟩),.pr),((.int .i64 (0:Int)),.pr),((.int .i64 (0:Int)),.pr),((.sl 1 []),.own true),((.sl 1 []),.own true),((.sl 1 []),.own true),((.sl 7 []),.own true),((.sl 6 []),.own true),((.sl 1 []),.own true),((.sl 1 []),.own true),((.sl 1 []),.own true),((.sl 1 []),.own true),((.sl 4 []),.own true),((.int .i64 (0:Int)),.pr),((.int .i64 (0:Int)),.pr),((.bool false),.pr),((.sl 2 []),.own true)],leafs:=[.string,.int .i64,.int .i64,.slice 2,.slice 9,.slice 9,.slice 23,.slice 32,.slice 29,.slice 3,.slice 2,.slice 25,.slice 62,.int .i64,.int .i64,.bool,.slice 46],deep:=false}
def T102:TyD:={under:=.int .i64,size:=1,bytes:=8,zv:=[((.int .i64 (0:Int)),.pr)],leafs:=[.int .i64],deep:=false}
def T104:TyD:={under:=.struct [(0,2),(1,30),(2,41),(3,51),(4,3),(5,102)],size:=6,bytes:=96,zv:=[((.int .i64 (0:Int)),.pr),((.sl 1 []),.own true),((.sl 2 []),.own true),((.sl 4 []),.own true),((.int .i64 (0:Int)),.pr),((.int .i64 (0:Int)),.pr)],leafs:=[.int .i64,.slice 2,.slice 46,.slice 62,.int .i64,.int .i64],deep:=false}
def T110:TyD:={under:=.pointer,size:=1,bytes:=8,zv:=[(.nilp,.pr)],leafs:=[.pointer],deep:=false}
def T111:TyD:={under:=.slice 4,size:=1,bytes:=24,zv:=[((.sl 1 []),.own true)],leafs:=[.slice 4],deep:=false}
def T113:TyD:={under:=.struct [(0,24),(1,38),(2,111),(3,3)],size:=4,bytes:=80,zv:=[((.sl 7 []),.own true),((.sl 1 []),.own true),((.sl 1 []),.own true),((.int .i64 (0:Int)),.pr)],leafs:=[.slice 23,.slice 25,.slice 4,.int .i64],deep:=false}
def T124:TyD:={under:=.int .u64,size:=1,bytes:=8,zv:=[((.int .u64 (0:Int)),.pr)],leafs:=[.int .u64],deep:=false}
def T125:TyD:={under:=.pointer,size:=1,bytes:=8,zv:=[(.nilp,.pr)],leafs:=[.pointer],deep:=false}
def T126:TyD:={under:=.pointer,size:=1,bytes:=8,zv:=[(.nilp,.pr)],leafs:=[.pointer],deep:=false}
def T127:TyD:={under:=.int .u64,size:=1,bytes:=8,zv:=[((.int .u64 (0:Int)),.pr)],leafs:=[.int .u64],deep:=false}
def T128:TyD:={under:=.array 2 127,size:=2,bytes:=16,zv:=[((.int .u64 (0:Int)),.pr),((.int .u64 (0:Int)),.pr)],leafs:=[.int .u64,.int .u64],deep:=false}
def T130:TyD:={under:=.struct [(0,128)],size:=2,bytes:=16,zv:=[((.int .u64 (0:Int)),.pr),((.int .u64 (0:Int)),.pr)],leafs:=[.int .u64,.int .u64],deep:=false,cmp:=true}
def T133:TyD:={under:=.struct [(0,29),(1,126),(2,130),(4,2),(5,30),(6,30),(7,3)],size:=8,bytes:=112,zv:=[((.sl 4 []),.own true),(.nilp,.pr),((.int .u64 (0:Int)),.pr),((.int .u64 (0:Int)),.pr),((.int .i64 (0:Int)),.pr),((.sl 1 []),.own true),((.sl 1 []),.own true),((.int .i64 (0:Int)),.pr)],leafs:=[.slice 28,.pointer,.int .u64,.int .u64,.int .i64,.slice 2,.slice 2,.int .i64],deep:=false}
def T140:TyD:={under:=.int .i64,size:=1,bytes:=8,zv:=[((.int .i64 (0:Int)),.pr)],leafs:=[.int .i64],deep:=false}
def T147:TyD:={under:=.int .u32,size:=1,bytes:=4,zv:=[((.int .u32 (0:Int)),.pr)],leafs:=[.int .u32],deep:=false}
def T157:TyD:={under:=.int .u64,size:=1,bytes:=8,zv:=[((.int .u64 (0:Int)),.pr)],leafs:=[.int .u64],deep:=false}
def T161:TyD:={under:=.pointer,size:=1,bytes:=8,zv:=[(.nilp,.pr)],leafs:=[.pointer],deep:=false}
def T165:TyD:={under:=.pointer,size:=1,bytes:=8,zv:=[(.nilp,.pr)],leafs:=[.pointer],deep:=false}
def S3:Sig:={params:=[.val .pr (.int .u8),.val .pr (.int .i64),.val .pr .bool],boxes:=[],outs:=[(.pr,.bool)]}
def S4:Sig:={params:=[.val .pr .bool,.val .pr (.int .u8),.val .pr (.int .u8)],boxes:=[],outs:=[(.pr,.bool)]}
def S5:Sig:={params:=[.val .pr (.int .u8),.val .pr (.int .u8)],boxes:=[],outs:=[(.pr,.bool)]}
def S6:Sig:={params:=[.val .ro (.agg [.str,.int .i64,.int .i64,.sl 1,.sl 1,.sl 1,.sl 7,.sl 6,.sl 1]),.val .ro (.agg [.sl 1,.sl 1,.sl 1]),.val .ro (.agg [.str,.int .i64])],boxes:=[],outs:=[(.ro,.agg [.sl 1,.sl 2,.int .i64])]}
def S7:Sig:={params:=[.val .ro (.sl 7),.val .ro (.sl 1)],boxes:=[],outs:=[(.pr,.bool)]}
def S8:Sig:={params:=[],boxes:=[],outs:=[(.pr,.bool)]}
def S9:Sig:={params:=[.val .pr (.int .i64)],boxes:=[],outs:=[(.ro,.sl 7)]}
def S10:Sig:={params:=[.val .ro (.agg [.str,.int .i64,.int .i64,.sl 1,.sl 1,.sl 1,.sl 7,.sl 6,.sl 1]),.val .ro (.agg [.sl 1,.sl 1,.sl 1]),.val .ro (.sl 1),.val .pr (.int .i64)],boxes:=[],outs:=[(.ro,.agg [.sl 1,.sl 1,.sl 1,.sl 2,.sl 4,.int .i64])]}
def S11:Sig:={params:=[.val .ro (.sl 1),.val .ro (.sl 1)],boxes:=[],outs:=[(.pr,.bool)]}
def S12:Sig:={params:=[],boxes:=[],outs:=[(.pr,.bool)]}
def S13:Sig:={params:=[.val .ro (.agg [.str,.int .i64,.int .i64,.sl 1,.sl 1,.sl 1,.sl 7,.sl 6,.sl 1]),.val .ro (.agg [.sl 1,.sl 1,.sl 1]),.val .ro (.agg [.str,.int .i64])],boxes:=[],outs:=[(.ro,.agg [.sl 1,.sl 1,.sl 1,.sl 4,.int .i64,.int .i64,.bool])]}
def S14:Sig:={params:=[.val .ro (.agg [.str,.int .i64,.int .i64,.sl 1,.sl 1,.sl 1,.sl 7,.sl 6,.sl 1])],boxes:=[],outs:=[(.ro,.agg [.sl 1,.sl 1,.sl 1,.sl 4,.int .i64,.int .i64,.bool])]}
def S15:Sig:={params:=[],boxes:=[],outs:=[(.pr,.bool)]}
def S16:Sig:={params:=[.ptr 0 0,.val .pr .str,.val .pr .bool],boxes:=[[.val .pr .str,.val .pr (.int .i64),.val .pr (.int .i64),.fix (.sl 1),.fix (.sl 1),.fix (.sl 1),.fix (.sl 7),.fix (.sl 6),.fix (.sl 1),.fix (.sl 1),.fix (.sl 1),.fix (.sl 1),.val .pr (.int .i64),.val (.own true) .any,.val (.own true) .any,.val (.own true) .any,.val .pr (.int .i64)]],outs:=[(.ro,.agg [.sl 1,.sl 2,.int .i64])]}
def S17:Sig:={params:=[.val .ro (.sl 1),.val .pr (.int .i64)],boxes:=[],outs:=[(.pr,.bool)]}
def S18:Sig:={params:=[.val .ro (.sl 7),.val .pr (.int .i64)],boxes:=[],outs:=[(.pr,.bool)]}
def S19:Sig:={params:=[.val .ro (.agg [.int .i64,.int .i64,.int .i64,.int .i64,.int .i64,.int .i64,.str])],boxes:=[],outs:=[(.pr,.bool)]}
def S20:Sig:={params:=[.val .ro (.sl 1),.val .ro (.sl 1)],boxes:=[],outs:=[(.ro,.sl 1)]}
def S21:Sig:={params:=[.val .ro (.sl 7),.val .pr (.int .i64)],boxes:=[],outs:=[(.ro,.sl 1)]}
def S22:Sig:={params:=[.val .ro (.agg [.sl 1,.sl 1,.sl 1])],boxes:=[],outs:=[((.own true),.agg [.sl 1,.sl 1,.sl 1])]}
def S23:Sig:={params:=[.val .ro (.sl 7),.val .ro (.sl 1),.val .ro (.sl 1)],boxes:=[],outs:=[((.own true),.sl 1)]}
def S24:Sig:={params:=[.val .ro (.sl 7),.val .ro (.sl 1),.val .ro (.sl 1),.val .ro (.sl 1)],boxes:=[],outs:=[((.own true),.sl 1)]}
def S25:Sig:={params:=[.ptr 0 0,.val .pr (.int .i64)],boxes:=[[.val .pr .str,.val .pr (.int .i64),.val .pr (.int .i64),.fix (.sl 1),.fix (.sl 1),.fix (.sl 1),.fix (.sl 7),.fix (.sl 6),.fix (.sl 1),.val .pr (.int .i64),.fix (.sl 1),.val (.own true) (.sl 1),.fix (.sl 1),.val (.own true) (.sl 2),.val (.own true) (.sl 4),.val .pr (.int .i64)]],outs:=[]}
def S27:Sig:={params:=[.val .pr (.int .i64),.ptr 0 0],boxes:=[[.val .pr (.int .i64)]],outs:=[(.pr,.bool)]}
def S28:Sig:={params:=[.ptr 0 0,.val .ro (.sl 1)],boxes:=[[.val .pr .str,.val .pr (.int .i64),.val .pr (.int .i64),.fix (.sl 1),.fix (.sl 1),.fix (.sl 1),.fix (.sl 7),.fix (.sl 6),.fix (.sl 1),.val .pr (.int .i64),.val (.own true) (.sl 1),.val (.own true) (.sl 1),.fix (.sl 1),.val (.own true) (.sl 2),.val (.own true) (.sl 4),.val .pr (.int .i64)]],outs:=[]}
def S29:Sig:={params:=[.val .ro (.sl 7),.val .ro (.sl 2),.val .ro (.sl 1)],boxes:=[],outs:=[((.own true),.sl 1)]}
def S30:Sig:={params:=[.val .ro (.agg [.str,.int .i64,.int .i64,.sl 1,.sl 1,.sl 1,.sl 7,.sl 6,.sl 1])],boxes:=[],outs:=[(.ro,.agg [.sl 1,.sl 1,.sl 1,.sl 2,.sl 4,.int .i64])]}
def S31:Sig:={params:=[.ptr 0 0,.val .ro (.agg [.str,.int .i64])],boxes:=[[.val .pr .str,.val .pr (.int .i64),.val .pr (.int .i64),.fix (.sl 1),.fix (.sl 1),.fix (.sl 1),.fix (.sl 7),.fix (.sl 6),.fix (.sl 1),.val .ro (.sl 1),.val .ro (.sl 1),.val .ro (.sl 1),.val (.own false) (.sl 4),.val .pr (.int .i64),.val .pr (.int .i64),.val .pr .bool,.val (.own false) (.sl 2)]],outs:=[]}
def S32:Sig:={params:=[.ptr 0 0],boxes:=[[.val .pr .str,.val .pr (.int .i64),.val .pr (.int .i64),.fix (.sl 1),.fix (.sl 1),.fix (.sl 1),.fix (.sl 7),.fix (.sl 6),.fix (.sl 1),.val .ro (.sl 1),.val .ro (.sl 1),.val .ro (.sl 1),.val (.own false) .any,.val .pr (.int .i64),.val .pr (.int .i64),.val .pr .bool,.val (.own false) (.sl 2)]],outs:=[(.ro,.agg [.sl 1,.sl 1,.sl 1,.sl 4,.int .i64,.int .i64,.bool])]}
def S33:Sig:={params:=[.ptr 0 0,.val .ro (.agg [.sl 1,.sl 1,.sl 1,.sl 2,.sl 4,.int .i64])],boxes:=[[.val .pr .str,.val .pr (.int .i64),.val .pr (.int .i64),.fix (.sl 1),.fix (.sl 1),.fix (.sl 1),.fix (.sl 7),.fix (.sl 6),.fix (.sl 1),.val .ro (.sl 1),.val .ro (.sl 1),.val .ro (.sl 1),.val (.own false) (.sl 4),.val .pr (.int .i64),.val .pr (.int .i64),.val .pr .bool,.val (.own false) (.sl 2)]],outs:=[]}
def S34:Sig:={params:=[.val .ro (.sl 7),.val .ro (.sl 1)],boxes:=[],outs:=[(.ro,.sl 1)]}
def S35:Sig:={params:=[.ptr 0 0,.val .pr (.int .i64),.val .pr .str],boxes:=[[.val .pr .str,.val .pr (.int .i64),.val .pr (.int .i64),.fix (.sl 1),.fix (.sl 1),.fix (.sl 1),.fix (.sl 7),.fix (.sl 6),.fix (.sl 1),.fix (.sl 1),.fix (.sl 1),.fix (.sl 1),.val .pr (.int .i64),.val (.own true) .any,.val (.own true) (.sl 1),.val (.own true) (.sl 2),.val .pr (.int .i64)]],outs:=[(.pr,.int .i64)]}
def S36:Sig:={params:=[.val .ro (.sl 1),.val .pr (.int .i64)],boxes:=[],outs:=[(.pr,.bool)]}
def S37:Sig:={params:=[.ptr 0 0,.val .pr (.int .i64)],boxes:=[[.val .pr .str,.val .pr (.int .i64),.val .pr (.int .i64),.fix (.sl 1),.fix (.sl 1),.fix (.sl 1),.fix (.sl 7),.fix (.sl 6),.fix (.sl 1),.fix (.sl 1),.fix (.sl 1),.fix (.sl 1),.val .pr (.int .i64),.val (.own true) .any,.val (.own true) (.sl 1),.val (.own true) (.sl 2),.val .pr (.int .i64)]],outs:=[]}
def S38:Sig:={params:=[.val .ro (.sl 1),.val .ro (.sl 1)],boxes:=[],outs:=[(.ro,.sl 1)]}
def S39:Sig:={params:=[.val .ro (.sl 7),.val .pr (.int .i64)],boxes:=[],outs:=[(.ro,.sl 1)]}
def S40:Sig:={params:=[.val .ro (.sl 1)],boxes:=[],outs:=[((.own true),.sl 1)]}
def S41:Sig:={params:=[.val .ro (.sl 1)],boxes:=[],outs:=[((.own true),.sl 1)]}
def S43:Sig:={params:=[.val .pr (.int .i64),.ptr 0 0,.ptr 1 0],boxes:=[[.fix (.sl 7)],[.val .pr (.int .i64)]],outs:=[(.pr,.bool)]}
def S44:Sig:={params:=[.val .ro (.sl 7),.val .pr (.int .i64),.val .pr (.int .i64)],boxes:=[],outs:=[(.pr,.bool)]}
def S45:Sig:={params:=[.val .ro (.sl 1)],boxes:=[],outs:=[]}
def S46:Sig:={params:=[.val (.own true) (.sl 1)],boxes:=[],outs:=[((.own true),.sl 1)]}
def S47:Sig:={params:=[.val .ro (.sl 1)],boxes:=[],outs:=[],io:=true}
def S48:Sig:={params:=[.val .ro (.agg [.int .i64,.int .i64,.int .i64,.int .i64,.int .i64,.int .i64,.str])],boxes:=[],outs:=[(.pr,.bool)]}
def S49:Sig:={params:=[.val .ro (.sl 7),.val .pr (.int .i64)],boxes:=[],outs:=[(.pr,.bool)]}
def S50:Sig:={params:=[.val .ro (.sl 4),.val .ro (.agg [.sl 1,.sl 1,.sl 1]),.val .pr (.int .i64),.val .pr (.int .i64)],boxes:=[],outs:=[((.own true),.agg [.int .i64,.sl 1,.sl 2,.sl 4,.int .i64,.int .i64])]}
def S52:Sig:={params:=[.val .ro (.sl 1),.val .pr (.int .i64)],boxes:=[],outs:=[(.pr,.int .i64),(.pr,.bool)]}
def S53:Sig:={params:=[.val (.own true) (.sl 1),.val .pr (.int .i64),.val (.own true) (.sl 1)],boxes:=[],outs:=[((.own true),.sl 1)]}
def S54:Sig:={params:=[.ptr 0 0,.val .pr (.int .i64)],boxes:=[[.fix (.sl 7),.fix (.sl 1),.val (.own true) (.sl 1),.val .pr (.int .i64)]],outs:=[]}
def S55:Sig:={params:=[.ptr 0 0,.val .pr (.int .i64)],boxes:=[[.fix (.sl 7),.fix (.sl 1),.val (.own true) (.sl 1),.val .pr (.int .i64)]],outs:=[(.ro,.sl 1)]}
def S56:Sig:={params:=[.ptr 0 0,.val .pr (.int .i64),.val .pr (.int .i64)],boxes:=[[.fix (.sl 7),.fix (.sl 1),.val (.own true) (.sl 1),.val .pr (.int .i64)]],outs:=[]}
def S57:Sig:={params:=[.ptr 0 0],boxes:=[[.fix (.sl 7),.fix (.sl 1),.val (.own true) (.sl 1),.val .pr (.int .i64)]],outs:=[((.own true),.sl 1)]}
def S58:Sig:={params:=[.val .ro (.sl 7)],boxes:=[],outs:=[((.own true),.sl 1)]}
def S59:Sig:={params:=[.ptr 0 0,.val .ro (.agg [.sl 1,.sl 2,.int .i64])],boxes:=[[.val .pr .str,.val .pr (.int .i64),.val .pr (.int .i64),.fix (.sl 1),.fix (.sl 1),.fix (.sl 1),.fix (.sl 7),.fix (.sl 6),.fix (.sl 1),.val .ro (.sl 1),.val .ro (.sl 1),.val .ro (.sl 1),.val (.own false) (.sl 4),.val .pr (.int .i64),.val .pr (.int .i64),.val .pr .bool,.val (.own false) (.sl 2)]],outs:=[]}
def S60:Sig:={params:=[.val .ro (.agg [.str,.int .i64,.int .i64,.sl 1,.sl 1,.sl 1,.sl 7,.sl 6,.sl 1]),.val .ro (.agg [.sl 1,.sl 1,.sl 1])],boxes:=[],outs:=[(.ro,.agg [.sl 1,.sl 2,.int .i64])]}
def S61:Sig:={params:=[.val .ro (.sl 7),.val .pr (.int .i64)],boxes:=[],outs:=[(.pr,.bool)]}
def S62:Sig:={params:=[.ptr 0 0,.val .pr (.int .i64)],boxes:=[[.val .pr .str,.val .pr (.int .i64),.val .pr (.int .i64),.fix (.sl 1),.fix (.sl 1),.fix (.sl 1),.fix (.sl 7),.fix (.sl 6),.fix (.sl 1),.fix (.sl 1),.fix (.sl 1),.fix (.sl 1),.val .pr (.int .i64),.val (.own true) .any,.val (.own true) (.sl 1),.val (.own true) (.sl 2),.val .pr (.int .i64)]],outs:=[(.pr,.bool)]}
def S63:Sig:={params:=[.val .ro (.sl 1),.val .pr (.int .i64)],boxes:=[],outs:=[(.pr,.int .i64)]}
def S64:Sig:={params:=[.val .pr (.int .i64),.ptr 0 0,.ptr 2 0],boxes:=[[.ptr 1 0],[.val .pr .str,.val .pr (.int .i64),.val .pr (.int .i64),.fix (.sl 1),.fix (.sl 1),.fix (.sl 1),.fix (.sl 7),.fix (.sl 6),.fix (.sl 1),.fix (.sl 1),.fix (.sl 1),.fix (.sl 1),.val .pr (.int .i64),.fix .any,.fix .any,.fix (.sl 2),.val .pr (.int .i64)],[.val .pr (.int .i64),.val .pr (.int .i64),.val .pr (.int .i64),.val .pr (.int .i64),.val .pr (.int .i64),.val .pr .str]],outs:=[(.pr,.bool)]}
def S65:Sig:={params:=[.val .ro (.sl 7),.val .ro (.agg [.int .i64,.int .i64,.int .i64,.int .i64,.int .i64,.str]),.val .ro (.agg [.int .i64,.int .i64,.int .i64,.int .i64,.int .i64,.str])],boxes:=[],outs:=[(.pr,.bool)]}
def S66:Sig:={params:=[.val .ro (.sl 7),.val .pr (.int .i64),.val .pr (.int .i64)],boxes:=[],outs:=[(.pr,.bool)]}
def S67:Sig:={params:=[.val .ro (.sl 1),.val .pr (.int .i64),.val .pr (.int .i64),.val .pr (.int .i64)],boxes:=[],outs:=[]}
def S68:Sig:={params:=[.val .pr (.int .u64)],boxes:=[],outs:=[(.pr,.int .i64)]}
def S69:Sig:={params:=[.val .ro (.sl 1)],boxes:=[],outs:=[(.ro,.agg [.int .u64,.int .u64])]}
def S70:Sig:={params:=[.ptr 0 0],boxes:=[[.val .pr (.int .i64),.fix (.sl 1),.fix (.sl 2),.fix (.sl 4),.val .pr (.int .i64),.val .pr (.int .i64)]],outs:=[]}
def S71:Sig:={params:=[.ptr 0 0,.val .ro (.agg [.int .i64,.int .i64,.int .i64,.str])],boxes:=[[.fix (.sl 4),.ptr 1 0,.val .pr (.int .u64),.val .pr (.int .u64),.val .pr (.int .i64),.val (.own true) (.sl 1),.val (.own true) (.sl 1),.val .pr (.int .i64)],[.val .pr (.int .i64),.val (.own true) (.sl 1),.val (.own true) (.sl 2),.val (.own true) (.sl 4),.val .pr (.int .i64),.val .pr (.int .i64)]],outs:=[],pan:=true}
def S72:Sig:={params:=[.val .pr (.int .i64),.val .pr (.int .i64)],boxes:=[],outs:=[(.pr,.bool)]}
def S73:Sig:={params:=[.val .pr (.int .i64)],boxes:=[],outs:=[(.pr,.bool)]}
def S75:Sig:={params:=[.val .ro (.sl 1),.val .pr (.int .i64)],boxes:=[],outs:=[]}
def S76:Sig:={params:=[.ptr 0 0],boxes:=[[.fix (.sl 7),.fix (.sl 1),.val (.own true) (.sl 1),.val .pr (.int .i64)]],outs:=[(.pr,.bool)]}
def S77:Sig:={params:=[.ptr 0 0,.val .pr (.int .i64)],boxes:=[[.fix (.sl 7),.fix (.sl 1),.val (.own true) (.sl 1),.val .pr (.int .i64)]],outs:=[]}
def S78:Sig:={params:=[.val .ro (.sl 7),.val .pr (.int .i64)],boxes:=[],outs:=[(.ro,.sl 1)]}
def S79:Sig:={params:=[.val .ro (.sl 1),.val .pr (.int .i64),.val .pr (.int .i64)],boxes:=[],outs:=[]}
def S80:Sig:={params:=[.val .ro (.sl 1),.val .pr (.int .i64),.val .pr (.int .i64)],boxes:=[],outs:=[]}
def S81:Sig:={params:=[.val .ro (.sl 1),.val .pr (.int .i64),.val .pr (.int .i64)],boxes:=[],outs:=[]}
def S82:Sig:={params:=[.val .ro (.sl 1),.val .pr (.int .i64),.val .pr (.int .i64)],boxes:=[],outs:=[(.pr,.int .i64),(.pr,.int .i64)]}
def S83:Sig:={params:=[.val .ro (.sl 1),.val .pr (.int .i64),.val .pr (.int .i64)],boxes:=[],outs:=[]}
def S84:Sig:={params:=[.val .ro (.sl 1),.val .pr (.int .i64),.val .pr (.int .i64)],boxes:=[],outs:=[(.pr,.bool)]}
def S85:Sig:={params:=[.val .ro (.sl 1),.val .pr (.int .i64),.val .pr (.int .i64),.val .pr (.int .i64)],boxes:=[],outs:=[(.pr,.int .i64)]}
def S86:Sig:={params:=[.val .ro (.sl 1),.val .pr (.int .i64),.val .pr (.int .i64),.val .pr (.int .i64)],boxes:=[],outs:=[(.pr,.int .i64),(.pr,.bool)]}
def S87:Sig:={params:=[.val .pr (.int .u32)],boxes:=[],outs:=[(.pr,.int .i64)]}
def S88:Sig:={params:=[.val .pr (.int .u64)],boxes:=[],outs:=[(.pr,.int .i64)]}
def S89:Sig:={params:=[.val .ro (.agg [.int .u64,.int .u64]),.val .pr (.int .i64)],boxes:=[],outs:=[(.ro,.agg [.int .u64,.int .u64])]}
def S90:Sig:={params:=[.ptr 0 0,.val .pr (.int .i64)],boxes:=[[.fix (.sl 4),.ptr 1 0,.val .pr (.int .u64),.val .pr (.int .u64),.val .pr (.int .i64),.val (.own true) (.sl 1),.val (.own true) (.sl 1),.val .pr (.int .i64)],[.val .pr (.int .i64),.val (.own true) (.sl 1),.val (.own true) (.sl 2),.val (.own true) (.sl 4),.val .pr (.int .i64),.val .pr (.int .i64)]],outs:=[]}
def S91:Sig:={params:=[.val .pr .bool],boxes:=[],outs:=[(.pr,.int .i64)]}
def S92:Sig:={params:=[.val .ro (.agg [.int .u64,.int .u64]),.val .pr (.int .i64)],boxes:=[],outs:=[(.pr,.bool)]}
def S93:Sig:={params:=[.val .pr (.int .i64),.val .pr (.int .i64)],boxes:=[],outs:=[(.pr,.int .i64)],pan:=true}
def S94:Sig:={params:=[.val .pr (.int .i64)],boxes:=[],outs:=[(.pr,.int .i64),(.pr,.int .i64)]}
def S95:Sig:={params:=[.ptr 0 0],boxes:=[[.fix (.sl 4),.ptr 1 0,.val .pr (.int .u64),.val .pr (.int .u64),.val .pr (.int .i64),.val (.own true) (.sl 1),.val (.own true) (.sl 1),.val .pr (.int .i64)],[.val .pr (.int .i64),.val (.own true) (.sl 1),.val (.own true) (.sl 2),.val (.own true) (.sl 4),.val .pr (.int .i64),.val .pr (.int .i64)]],outs:=[(.pr,.int .i64)]}
def S96:Sig:={params:=[.ptr 0 0,.val .ro (.agg [.int .i64,.int .i64,.int .i64,.str])],boxes:=[[.fix (.sl 4),.ptr 1 0,.val .pr (.int .u64),.val .pr (.int .u64),.val .pr (.int .i64),.val (.own true) (.sl 1),.val (.own true) (.sl 1),.val .pr (.int .i64)],[.val .pr (.int .i64),.val (.own true) (.sl 1),.val (.own true) (.sl 2),.val (.own true) (.sl 4),.val .pr (.int .i64),.val .pr (.int .i64)]],outs:=[],pan:=true}
def S97:Sig:={params:=[.ptr 0 0,.val .ro (.agg [.int .i64,.int .i64,.int .i64,.str])],boxes:=[[.fix (.sl 4),.ptr 1 0,.val .pr (.int .u64),.val .pr (.int .u64),.val .pr (.int .i64),.val (.own true) (.sl 1),.val (.own true) (.sl 1),.val .pr (.int .i64)],[.val .pr (.int .i64),.val (.own true) (.sl 1),.val (.own true) (.sl 2),.val (.own true) (.sl 4),.val .pr (.int .i64),.val .pr (.int .i64)]],outs:=[]}
def S98:Sig:={params:=[.val .pr (.int .i64),.val .pr (.int .i64),.val .pr (.int .i64)],boxes:=[],outs:=[(.pr,.int .i64)],pan:=true}
def S99:Sig:={params:=[.val .pr (.int .i64)],boxes:=[],outs:=[(.pr,.bool)]}
def S100:Sig:={params:=[.val .ro (.sl 1),.val .pr (.int .i64)],boxes:=[],outs:=[]}
def S101:Sig:={params:=[.ptr 0 0,.val .pr (.int .i64)],boxes:=[[.fix (.sl 7),.fix (.sl 1),.val (.own true) (.sl 1),.val .pr (.int .i64)]],outs:=[(.pr,.bool)]}
def S102:Sig:={params:=[.val .ro (.sl 7),.val .pr (.int .i64)],boxes:=[],outs:=[((.own true),.sl 1)]}
def S103:Sig:={params:=[.val .pr (.int .i64),.ptr 0 0],boxes:=[[.fix (.sl 7)]],outs:=[(.pr,.bool)]}
def S104:Sig:={params:=[.val .ro (.sl 1),.val .pr (.int .i64),.val .pr (.int .i64),.val .pr (.int .i64)],boxes:=[],outs:=[]}
def S105:Sig:={params:=[.val .pr (.int .i64)],boxes:=[],outs:=[(.pr,.int .u64)]}
def S106:Sig:={params:=[.ptr 0 0],boxes:=[[.val .pr (.int .u64)]],outs:=[(.pr,.int .u64)]}
def S107:Sig:={params:=[.val .ro (.sl 1),.val .pr (.int .i64),.ptr 0 0],boxes:=[[.val .pr (.int .i64)]],outs:=[(.pr,.int .i64)]}
def S108:Sig:={params:=[.val .ro (.sl 1),.val .pr (.int .i64),.val .pr (.int .i64),.val .pr (.int .i64),.ptr 0 0],boxes:=[[.val .pr (.int .i64)]],outs:=[(.pr,.int .i64)]}
def S109:Sig:={params:=[.val .pr (.int .i64)],boxes:=[],outs:=[(.pr,.bool)]}
def S110:Sig:={params:=[.val .pr (.int .i64),.val .pr (.int .i64)],boxes:=[],outs:=[(.pr,.int .i64),(.pr,.int .i64)]}
def S111:Sig:={params:=[.ptr 0 0,.val .pr (.int .i64),.val .pr (.int .i64),.val .ro (.agg [.str,.int .i64])],boxes:=[[.fix (.sl 4),.ptr 1 0,.val .pr (.int .u64),.val .pr (.int .u64),.val .pr (.int .i64),.val (.own true) (.sl 1),.val (.own true) (.sl 1),.val .pr (.int .i64)],[.val .pr (.int .i64),.val (.own true) (.sl 1),.val (.own true) (.sl 2),.val (.own true) (.sl 4),.val .pr (.int .i64),.val .pr (.int .i64)]],outs:=[]}
def S112:Sig:={params:=[.val .pr (.int .i64),.val .pr (.int .i64)],boxes:=[],outs:=[(.pr,.int .i64),(.pr,.int .i64)]}
def S113:Sig:={params:=[.val .pr (.int .i64),.val .pr (.int .i64)],boxes:=[],outs:=[(.pr,.int .i64),(.pr,.int .i64)]}
def S114:Sig:={params:=[.val .pr (.int .i64),.val .pr (.int .i64)],boxes:=[],outs:=[(.pr,.int .i64),(.pr,.int .i64)]}
def S115:Sig:={params:=[.val .pr (.int .i64),.val .pr (.int .i64)],boxes:=[],outs:=[(.pr,.int .i64),(.pr,.int .i64)]}
def S116:Sig:={params:=[.val .ro (.sl 1),.val .pr (.int .i64),.val .pr (.int .i64),.ptr 0 0],boxes:=[[.val .pr (.int .i64)]],outs:=[(.pr,.int .i64),(.pr,.int .i64)]}
def S65562:Sig:={params:=[.val (.own true) (.sl 1),.clo 27 [(0,0)]],boxes:=[[.val .pr (.int .i64)]],outs:=[((.own true),.sl 1)]}
def S65578:Sig:={params:=[.val .ro (.sl 1),.clo 43 [(0,0),(1,0)]],boxes:=[[.fix (.sl 7)],[.val .pr (.int .i64)]],outs:=[(.pr,.bool)]}
def S65587:Sig:={params:=[.val .ro (.sl 1),.clo 27 [(0,0)]],boxes:=[[.val .pr (.int .i64)]],outs:=[(.pr,.int .i64)]}
def S131098:Sig:={params:=[.val (.own true) (.sl 1),.clo 64 [(0,0),(2,0)]],boxes:=[[.ptr 1 0],[.val .pr .str,.val .pr (.int .i64),.val .pr (.int .i64),.fix (.sl 1),.fix (.sl 1),.fix (.sl 1),.fix (.sl 7),.fix (.sl 6),.fix (.sl 1),.fix (.sl 1),.fix (.sl 1),.fix (.sl 1),.val .pr (.int .i64),.fix .any,.fix .any,.fix (.sl 2),.val .pr (.int .i64)],[.val .pr (.int .i64),.val .pr (.int .i64),.val .pr (.int .i64),.val .pr (.int .i64),.val .pr (.int .i64),.val .pr .str]],outs:=[((.own true),.sl 1)]}
def S131123:Sig:={params:=[.val .ro (.sl 1),.clo 43 [(0,0),(1,0)]],boxes:=[[.fix (.sl 7)],[.val .pr (.int .i64)]],outs:=[(.pr,.int .i64)]}
def S196634:Sig:={params:=[.val (.own true) (.sl 1),.clo 103 [(0,0)]],boxes:=[[.fix (.sl 7)]],outs:=[((.own true),.sl 1)]}
def S196659:Sig:={params:=[.val .ro (.sl 1),.clo 64 [(0,0),(2,0)]],boxes:=[[.ptr 1 0],[.val .pr .str,.val .pr (.int .i64),.val .pr (.int .i64),.fix (.sl 1),.fix (.sl 1),.fix (.sl 1),.fix (.sl 7),.fix (.sl 6),.fix (.sl 1),.fix (.sl 1),.fix (.sl 1),.fix (.sl 1),.val .pr (.int .i64),.fix .any,.fix .any,.fix (.sl 2),.val .pr (.int .i64)],[.val .pr (.int .i64),.val .pr (.int .i64),.val .pr (.int .i64),.val .pr (.int .i64),.val .pr (.int .i64),.val .pr .str]],outs:=[(.pr,.int .i64)]}
def S262195:Sig:={params:=[.val .ro (.sl 1),.clo 103 [(0,0)]],boxes:=[[.fix (.sl 7)]],outs:=[(.pr,.int .i64)]}
def TAB:Tab:={tys:=[(2,T2),(3,T3),(4,T4),(5,T5),(6,T6),(7,T7),(8,T8),(9,T9),(10,T10),(23,T23),(24,T24),(25,T25),(26,T26),(28,T28),(29,T29),(30,T30),(32,T32),(33,T33),(34,T34),(35,T35),(37,T37),(38,T38),(40,T40),(41,T41),(43,T43),(46,T46),(51,T51),(53,T53),(58,T58),(62,T62),(64,T64),(65,T65),(67,T67),(74,T74),(77,T77),(78,T78),(80,T80),(81,T81),(90,T90),(92,T92),(102,T102),(104,T104),(110,T110),(111,T111),(113,T113),(124,T124),(125,T125),(126,T126),(127,T127),(128,T128),(130,T130),(133,T133),(140,T140),(147,T147),(157,T157),(161,T161),(165,T165)],sigs:=[(3,S3),(4,S4),(5,S5),(6,S6),(7,S7),(8,S8),(9,S9),(10,S10),(11,S11),(12,S12),(13,S13),(14,S14),(15,S15),(16,S16),(17,S17),(18,S18),(19,S19),(20,S20),(21,S21),(22,S22),(23,S23),(24,S24),(25,S25),(27,S27),(28,S28),(29,S29),(30,S30),(31,S31),(32,S32),(33,S33),(34,S34),(35,S35),(36,S36),(37,S37),(38,S38),(39,S39),(40,S40),(41,S41),(43,S43),(44,S44),(45,S45),(46,S46),(47,S47),(48,S48),(49,S49),(50,S50),(52,S52),(53,S53),(54,S54),(55,S55),(56,S56),(57,S57),(58,S58),(59,S59),(60,S60),(61,S61),(62,S62),(63,S63),(64,S64),(65,S65),(66,S66),(67,S67),(68,S68),(69,S69),(70,S70),(71,S71),(72,S72),(73,S73),(75,S75),(76,S76),(77,S77),(78,S78),(79,S79),(80,S80),(81,S81),(82,S82),(83,S83),(84,S84),(85,S85),(86,S86),(87,S87),(88,S88),(89,S89),(90,S90),(91,S91),(92,S92),(93,S93),(94,S94),(95,S95),(96,S96),(97,S97),(98,S98),(99,S99),(100,S100),(101,S101),(102,S102),(103,S103),(104,S104),(105,S105),(106,S106),(107,S107),(108,S108),(109,S109),(110,S110),(111,S111),(112,S112),(113,S113),(114,S114),(115,S115),(116,S116),(65562,S65562),(65578,S65578),(65587,S65587),(131098,S131098),(131123,S131123),(196634,S196634),(196659,S196659),(262195,S262195)],takes:=[(10,21,4),(16,2,3),(16,16,3),(22,7,7),(23,0,1),(23,11,1),(24,0,0),(24,11,5),(24,18,1),(25,2,2),(25,3,7),(25,4,7),(28,5,6),(29,0,0),(29,13,2),(32,4,5),(32,7,3),(32,11,3),(37,9,5),(40,0,0),(40,2,0),(40,3,3),(41,0,0),(41,2,0),(41,3,3),(46,0,0),(46,2,1),(46,15,3),(46,16,1),(50,12,0),(53,0,0),(53,4,1),(53,7,3),(53,12,1),(53,17,1),(53,20,1),(57,0,0),(57,8,1),(58,0,0),(58,3,2),(95,2,11),(97,6,6),(102,0,0),(102,8,1),(65562,0,0),(65562,3,1),(65562,12,2),(65562,12,3),(131098,0,0),(131098,3,1),(131098,12,2),(131098,12,3),(196634,0,0),(196634,3,1),(196634,12,2),(196634,12,3)],varis:=[(5,3,5,1),(5,9,9,1),(5,10,5,1),(10,21,6,1),(23,5,2,1),(23,6,3,3),(23,10,1,1005),(25,1,12,5),(37,9,7,2),(40,2,0,2),(40,3,2,3),(41,2,0,2),(41,3,2,3),(78,1,4,3),(65562,1,2,1),(65562,11,2,4),(65578,1,2,2),(131098,1,2,3),(131098,11,2,4),(196634,1,2,4),(196634,11,2,4)],panT:=102,keeps:=[(50,[8])]}
theorem TAB_chk:TAB.chk Try.prog=true:=by kernel_rfl
theorem MO:Try.prog.follows .mixedOrders=true:=by kernel_rfl
abbrev TL {R:Type} (f:FuncId) (g:LV→(LV→OV R)→OV R):Prop:=Tells Try.prog TAB f g
def B0:List PCell:=[.var .str .pr false,.var (.int .i64) .pr false,.var (.int .i64) .pr false,.var (.sl 1) .ro false,.var (.sl 1) .ro false,.var (.sl 1) .ro false,.var (.sl 7) .ro false,.var (.sl 6) .ro false,.var (.sl 1) .ro false]
abbrev J4:List Kd:=[.int .i64,.int .i64,.sl 4,.str,.int .i64,.int .i64,.sl 1,.sl 1,.sl 1,.sl 7,.sl 6,.sl 1]
abbrev J5:List Kd:=[.int .i64,.int .i64,.sl 4,.int .i64,.str,.int .i64,.int .i64,.sl 1,.sl 1,.sl 1,.sl 7,.sl 6,.sl 1]
def B1:List PCell:=[.var (.sl 1) .ro false,.var (.sl 1) .ro false,.var (.sl 1) .ro false,.var (.sl 4) .ro false,.var (.int .i64) .pr false,.var (.int .i64) .pr false,.var .bool .pr false]
abbrev J6:List Kd:=[.int .i64,.int .i64,.bool,.int .i64,.sl 1,.sl 1,.sl 1,.sl 4,.int .i64,.int .i64,.bool]
abbrev J7:List Kd:=[.bool]
abbrev J8:List Kd:=[.int .i64,.int .i64,.bool,.int .i64,.int .i64,.sl 1,.sl 1,.sl 1,.sl 4,.int .i64,.int .i64,.bool]
abbrev J9:List Kd:=[.int .u8,.int .u8]
abbrev J10:List Kd:=[.agg [.str,.int .i64,.int .i64,.sl 1,.sl 1,.sl 1,.sl 7,.sl 6,.sl 1],.agg [.sl 1,.sl 1,.sl 1],.agg [.str,.int .i64]]
abbrev J11:List Kd:=[]
abbrev J13:List Kd:=[.sl 7,.sl 1]
abbrev J14:List Kd:=[.int .i64]
def B2:List PCell:=[.var (.sl 1) (.own true) false,.var (.sl 1) (.own true) false,.var (.sl 1) (.own true) false,.var (.sl 2) (.own true) false,.var (.sl 4) (.own true) false,.var (.int .i64) .pr false]
def B3:List PCell:=[.var .str .pr false,.var (.int .i64) .pr false,.var (.int .i64) .pr false,.var (.sl 1) .ro false,.var (.sl 1) .ro false,.var (.sl 1) .ro false,.var (.sl 7) .ro false,.var (.sl 6) .ro false,.var (.sl 1) .ro false,.var (.int .i64) .pr false,.var (.sl 1) (.own true) false,.var (.sl 1) (.own true) false,.var (.sl 1) (.own true) false,.var (.sl 2) (.own true) false,.var (.sl 4) (.own true) false,.var (.int .i64) .pr false]
abbrev J15:List Kd:=[.sl 1,.sl 1,.sl 2,.str,.int .i64,.int .i64,.sl 1,.sl 1,.sl 1,.sl 7,.sl 6,.sl 1,.sl 1,.sl 1,.sl 1,.sl 2,.sl 4,.int .i64,.str,.int .i64,.int .i64,.sl 1,.sl 1,.sl 1,.sl 7,.sl 6,.sl 1,.int .i64,.sl 1,.sl 1,.sl 1,.sl 2,.sl 4,.int .i64]
abbrev J16:List Kd:=[.sl 1,.sl 1,.sl 2,.sl 1,.int .i64,.int .i64,.str,.int .i64,.int .i64,.sl 1,.sl 1,.sl 1,.sl 7,.sl 6,.sl 1,.sl 1,.sl 1,.sl 1,.sl 2,.sl 4,.int .i64,.str,.int .i64,.int .i64,.sl 1,.sl 1,.sl 1,.sl 7,.sl 6,.sl 1,.int .i64,.sl 1,.sl 1,.sl 1,.sl 2,.sl 4,.int .i64]
abbrev J17:List Kd:=[.sl 1,.sl 2,.str,.int .i64,.int .i64,.sl 1,.sl 1,.sl 1,.sl 7,.sl 6,.sl 1,.sl 1,.sl 1,.sl 1,.sl 2,.sl 4,.int .i64,.str,.int .i64,.int .i64,.sl 1,.sl 1,.sl 1,.sl 7,.sl 6,.sl 1,.int .i64,.sl 1,.sl 1,.sl 1,.sl 2,.sl 4,.int .i64]
abbrev J18:List Kd:=[.sl 1,.sl 2,.sl 1,.int .i64,.int .i64,.str,.int .i64,.int .i64,.sl 1,.sl 1,.sl 1,.sl 7,.sl 6,.sl 1,.sl 1,.sl 1,.sl 1,.sl 2,.sl 4,.int .i64,.str,.int .i64,.int .i64,.sl 1,.sl 1,.sl 1,.sl 7,.sl 6,.sl 1,.int .i64,.sl 1,.sl 1,.sl 1,.sl 2,.sl 4,.int .i64]
abbrev J19:List Kd:=[.sl 2,.str,.int .i64,.int .i64,.sl 1,.sl 1,.sl 1,.sl 7,.sl 6,.sl 1,.sl 1,.sl 1,.sl 1,.sl 2,.sl 4,.int .i64,.str,.int .i64,.int .i64,.sl 1,.sl 1,.sl 1,.sl 7,.sl 6,.sl 1,.int .i64,.sl 1,.sl 1,.sl 1,.sl 2,.sl 4,.int .i64]
abbrev J20:List Kd:=[.sl 2,.sl 1,.int .i64,.int .i64,.str,.int .i64,.int .i64,.sl 1,.sl 1,.sl 1,.sl 7,.sl 6,.sl 1,.sl 1,.sl 1,.sl 1,.sl 2,.sl 4,.int .i64,.str,.int .i64,.int .i64,.sl 1,.sl 1,.sl 1,.sl 7,.sl 6,.sl 1,.int .i64,.sl 1,.sl 1,.sl 1,.sl 2,.sl 4,.int .i64]
abbrev J21:List Kd:=[.agg [.str,.int .i64,.int .i64,.sl 1,.sl 1,.sl 1,.sl 7,.sl 6,.sl 1],.agg [.sl 1,.sl 1,.sl 1],.sl 1,.int .i64]
abbrev J24:List Kd:=[.agg [.str,.int .i64,.int .i64,.sl 1,.sl 1,.sl 1,.sl 7,.sl 6,.sl 1]]
def B4:List PCell:=[.var .str .pr false,.var (.int .i64) .pr false,.var (.int .i64) .pr false,.var (.sl 1) .ro true,.var (.sl 1) .ro true,.var (.sl 1) .ro true,.var (.sl 7) .ro true,.var (.sl 6) .ro true,.var (.sl 1) .ro true,.var (.sl 1) .ro true,.var (.sl 1) .ro true,.var (.sl 1) .ro true,.var (.int .i64) .pr false,.var .any (.own true) false,.var .any (.own true) false,.var .any (.own true) false,.var (.int .i64) .pr false]
def B5:List PCell:=[.var (.sl 1) (.own true) false,.var (.sl 2) (.own true) false,.var (.int .i64) .pr false]
abbrev J25:List Kd:=[.sl 1,.str,.int .i64,.int .i64,.sl 1,.sl 1,.sl 1,.sl 7,.sl 6,.sl 1,.sl 1,.sl 1,.sl 1,.int .i64,.any,.any,.any,.int .i64,.sl 1,.sl 2,.int .i64]
abbrev J26:List Kd:=[.str,.sl 1,.sl 1,.int .i64,.int .i64,.str,.int .i64,.int .i64,.sl 1,.sl 1,.sl 1,.sl 7,.sl 6,.sl 1,.sl 1,.sl 1,.sl 1,.int .i64,.any,.any,.any,.int .i64,.sl 1,.sl 2,.int .i64]
abbrev J27:List Kd:=[.str,.int .i64,.int .i64,.sl 1,.sl 1,.sl 1,.sl 7,.sl 6,.sl 1,.sl 1,.sl 1,.sl 1,.int .i64,.any,.any,.any,.int .i64,.sl 1,.sl 2,.int .i64]
abbrev J28:List Kd:=[.sl 1,.int .i64,.int .i64,.str,.int .i64,.int .i64,.sl 1,.sl 1,.sl 1,.sl 7,.sl 6,.sl 1,.sl 1,.sl 1,.sl 1,.int .i64,.any,.any,.any,.int .i64,.sl 1,.sl 2,.int .i64]
abbrev J29:List Kd:=[.str,.bool,.str,.int .i64,.int .i64,.sl 1,.sl 1,.sl 1,.sl 7,.sl 6,.sl 1,.sl 1,.sl 1,.sl 1,.int .i64,.any,.any,.any,.int .i64]
abbrev J30:List Kd:=[.sl 1,.int .i64,.int .i64]
abbrev J31:List Kd:=[.sl 1,.int .i64]
abbrev J32:List Kd:=[.sl 7,.int .i64]
abbrev J33:List Kd:=[.agg [.int .i64,.int .i64,.int .i64,.int .i64,.int .i64,.int .i64,.str]]
abbrev J34:List Kd:=[.sl 1]
abbrev J35:List Kd:=[.sl 7,.sl 1,.sl 1,.int .i64]
def B6:List PCell:=[.var (.sl 1) .ro false,.var (.sl 1) .ro false,.var (.sl 1) .ro false]
def B7:List PCell:=[.var (.sl 1) (.own true) false,.var (.sl 1) (.own true) false,.var (.sl 1) (.own true) false]
abbrev J36:List Kd:=[.sl 1,.sl 1,.sl 1,.sl 1,.sl 1,.sl 1,.sl 1]
abbrev J37:List Kd:=[.sl 1,.sl 1,.int .i64,.int .i64,.sl 1,.sl 1,.sl 1,.sl 1,.sl 1,.sl 1]
abbrev J38:List Kd:=[.agg [.sl 1,.sl 1,.sl 1]]
abbrev J39:List Kd:=[.sl 1,.sl 1,.sl 1,.int .i64,.int .i64,.sl 7]
abbrev J40:List Kd:=[.sl 7,.sl 1,.sl 1]
def B8:List PCell:=[.var (.int .i64) .pr false,.var (.int .i64) .pr false,.var (.int .i64) .pr false,.var (.int .i64) .pr false,.var (.int .i64) .pr false,.var (.int .i64) .pr false,.var .str .pr false]
abbrev J41:List Kd:=[.sl 7,.sl 1,.sl 1,.sl 1,.sl 1,.sl 7,.int .i64,.int .i64]
abbrev J42:List Kd:=[.sl 7,.sl 1,.sl 1,.sl 1,.sl 1,.int .i64,.sl 7,.int .i64,.int .i64,.sl 1,.int .i64,.int .i64,.int .i64,.int .i64,.int .i64,.int .i64,.int .i64,.int .i64,.str]
abbrev J43:List Kd:=[.sl 7,.sl 1,.sl 1,.sl 1]
abbrev J44:List Kd:=[.int .i64,.str,.int .i64,.int .i64,.sl 1,.sl 1,.sl 1,.sl 7,.sl 6,.sl 1,.int .i64,.sl 1,.sl 1,.sl 1,.sl 2,.sl 4,.int .i64]
abbrev J45:List Kd:=[.int .i64,.int .i64]
def B9:List PCell:=[.var .str .pr false,.var (.int .i64) .pr false,.var (.int .i64) .pr false,.var (.sl 1) .ro true,.var (.sl 1) .ro true,.var (.sl 1) .ro true,.var (.sl 7) .ro true,.var (.sl 6) .ro true,.var (.sl 1) .ro true,.var (.int .i64) .pr false,.var (.sl 1) (.own true) false,.var (.sl 1) (.own true) false,.var (.sl 1) .ro true,.var (.sl 2) (.own true) false,.var (.sl 4) (.own true) false,.var (.int .i64) .pr false]
abbrev J46:List Kd:=[.str,.int .i64,.int .i64,.sl 1,.sl 1,.sl 1,.sl 7,.sl 6,.sl 1,.int .i64,.sl 1,.sl 1,.sl 1,.sl 2,.sl 4,.int .i64]
abbrev J47:List Kd:=[.sl 1,.int .i64,.int .i64,.str,.int .i64,.int .i64,.sl 1,.sl 1,.sl 1,.sl 7,.sl 6,.sl 1,.int .i64,.sl 1,.sl 1,.sl 1,.sl 2,.sl 4,.int .i64]
abbrev J48:List Kd:=[.sl 1,.str,.int .i64,.int .i64,.sl 1,.sl 1,.sl 1,.sl 7,.sl 6,.sl 1,.int .i64,.sl 1,.sl 1,.sl 1,.sl 2,.sl 4,.int .i64]
def B10:List PCell:=[.var (.int .i64) .pr false,.var (.int .i64) .pr false]
def B11:List PCell:=[.var (.sl 7) .ro false,.var (.sl 1) .ro false,.var (.sl 1) (.own true) false,.var (.int .i64) .pr false]
abbrev J49:List Kd:=[.sl 7,.sl 2,.int .i64,.int .i64,.sl 7,.sl 1,.sl 1,.int .i64]
abbrev J50:List Kd:=[.sl 7,.sl 2,.int .i64,.int .i64,.sl 1,.int .i64,.int .i64,.int .i64,.int .i64,.sl 7,.sl 1,.sl 1,.int .i64]
abbrev J51:List Kd:=[.sl 7,.sl 2,.sl 1]
abbrev J52:List Kd:=[.agg [.str,.int .i64],.str,.int .i64,.int .i64,.sl 1,.sl 1,.sl 1,.sl 7,.sl 6,.sl 1,.sl 1,.sl 1,.sl 1,.sl 4,.int .i64,.int .i64,.bool,.sl 2]
def B12:List PCell:=[.var .str .pr false,.var (.int .i64) .pr false,.var (.int .i64) .pr false,.var (.sl 1) .ro true,.var (.sl 1) .ro true,.var (.sl 1) .ro true,.var (.sl 7) .ro true,.var (.sl 6) .ro true,.var (.sl 1) .ro true,.var (.sl 1) .ro false,.var (.sl 1) .ro false,.var (.sl 1) .ro false,.var .any (.own false) false,.var (.int .i64) .pr false,.var (.int .i64) .pr false,.var .bool .pr false,.var (.sl 2) (.own false) false]
def B13:List PCell:=[.var (.sl 1) (.own true) false,.var (.sl 1) (.own true) false,.var (.sl 1) (.own true) false,.var (.sl 4) (.own true) false,.var (.int .i64) .pr false,.var (.int .i64) .pr false,.var .bool .pr false]
def B14:List PCell:=[.var .str .pr false,.var (.int .i64) .pr false,.var (.int .i64) .pr false,.var (.sl 1) .ro true,.var (.sl 1) .ro true,.var (.sl 1) .ro true,.var (.sl 7) .ro true,.var (.sl 6) .ro true,.var (.sl 1) .ro true,.var (.sl 1) .ro false,.var (.sl 1) .ro false,.var (.sl 1) .ro false,.stat ⟨.undef,.pr,0,false⟩,.var (.int .i64) .pr false,.var (.int .i64) .pr false,.var .bool .pr false,.var (.sl 2) (.own false) false]
def B15:List PCell:=[.var (.sl 1) .ro false,.var (.sl 1) .ro false,.var (.sl 1) .ro false,.var (.sl 4) (.own false) false,.var (.int .i64) .pr false,.var (.int .i64) .pr false,.var .bool .pr false]
abbrev J53:List Kd:=[.str,.int .i64,.int .i64,.sl 1,.sl 1,.sl 1,.sl 7,.sl 6,.sl 1,.sl 1,.sl 1,.sl 1,.int .i64,.int .i64,.bool,.sl 2,.sl 1,.sl 1,.sl 1,.sl 4,.int .i64,.int .i64,.bool]
abbrev J54:List Kd:=[.str,.int .i64,.int .i64,.sl 1,.sl 1,.sl 1,.sl 7,.sl 6,.sl 1,.sl 1,.sl 1,.sl 1,.any,.int .i64,.int .i64,.bool,.sl 2,.sl 1,.sl 1,.sl 1,.sl 4,.int .i64,.int .i64,.bool]
abbrev J55:List Kd:=[.str,.int .i64,.int .i64,.sl 1,.sl 1,.sl 1,.sl 7,.sl 6,.sl 1,.sl 1,.sl 1,.sl 1,.any,.int .i64,.int .i64,.bool,.sl 2]
abbrev J56:List Kd:=[.agg [.sl 1,.sl 1,.sl 1,.sl 2,.sl 4,.int .i64],.str,.int .i64,.int .i64,.sl 1,.sl 1,.sl 1,.sl 7,.sl 6,.sl 1,.sl 1,.sl 1,.sl 1,.sl 4,.int .i64,.int .i64,.bool,.sl 2]
abbrev J57:List Kd:=[.sl 7,.sl 1,.sl 1,.int .i64,.int .i64]
def B16:List PCell:=[.var .str .pr false,.var (.int .i64) .pr false,.var (.int .i64) .pr false,.var (.sl 1) .ro true,.var (.sl 1) .ro true,.var (.sl 1) .ro true,.var (.sl 7) .ro true,.var (.sl 6) .ro true,.var (.sl 1) .ro true,.var (.sl 1) .ro true,.var (.sl 1) .ro true,.var (.sl 1) .ro true,.var (.int .i64) .pr false,.var .any (.own true) false,.var (.sl 1) (.own true) false,.var (.sl 2) (.own true) false,.var (.int .i64) .pr false]
abbrev J58:List Kd:=[.int .i64,.str,.int .i64,.str,.int .i64,.int .i64,.sl 1,.sl 1,.sl 1,.sl 7,.sl 6,.sl 1,.sl 1,.sl 1,.sl 1,.int .i64,.any,.sl 1,.sl 2,.int .i64]
abbrev J59:List Kd:=[.int .i64,.str,.int .i64,.int .i64,.sl 1,.sl 1,.sl 1,.sl 7,.sl 6,.sl 1,.sl 1,.sl 1,.sl 1,.int .i64,.any,.sl 1,.sl 2,.int .i64]
abbrev J60:List Kd:=[.int .i64,.str,.int .i64,.sl 6,.int .i64,.int .i64,.str,.int .i64,.int .i64,.sl 1,.sl 1,.sl 1,.sl 7,.sl 6,.sl 1,.sl 1,.sl 1,.sl 1,.int .i64,.any,.sl 1,.sl 2,.int .i64]
abbrev J61:List Kd:=[.str,.int .i64,.int .i64,.sl 1,.sl 1,.sl 1,.sl 7,.sl 6,.sl 1,.sl 1,.sl 1,.sl 1,.int .i64,.any,.sl 1,.sl 2,.int .i64]
abbrev J62:List Kd:=[.int .i64,.str,.str,.int .i64,.int .i64,.sl 1,.sl 1,.sl 1,.sl 7,.sl 6,.sl 1,.sl 1,.sl 1,.sl 1,.int .i64,.any,.sl 1,.sl 2,.int .i64]
def B17:List PCell:=[.stat ⟨(.ptr 0 0),.pt,0,false⟩]
def B18:List PCell:=[.var (.int .i64) .pr false,.var (.int .i64) .pr false,.var (.int .i64) .pr false,.var (.int .i64) .pr false,.var (.int .i64) .pr false,.var .str .pr false]
abbrev J63:List Kd:=[.int .i64,.str,.int .i64,.int .i64,.sl 1,.sl 1,.sl 1,.sl 7,.sl 6,.sl 1,.sl 1,.sl 1,.sl 1,.int .i64,.any,.sl 1,.sl 2,.int .i64,.int .i64,.int .i64,.int .i64,.int .i64,.int .i64,.str]
abbrev J64:List Kd:=[.int .i64,.int .i64,.int .i64,.str,.int .i64,.int .i64,.sl 1,.sl 1,.sl 1,.sl 7,.sl 6,.sl 1,.sl 1,.sl 1,.sl 1,.int .i64,.any,.sl 1,.sl 2,.int .i64,.int .i64,.int .i64,.int .i64,.int .i64,.int .i64,.str]
abbrev J67:List Kd:=[.int .i64,.sl 7,.int .i64]
abbrev J68:List Kd:=[.sl 7,.int .i64,.int .i64]
abbrev J69:List Kd:=[.sl 1,.int .i64,.sl 1,.int .i64]
def B19:List PCell:=[.var (.int .i64) .pr false,.var (.sl 1) (.own true) false,.var (.sl 2) (.own true) false,.var (.sl 4) (.own true) false,.var (.int .i64) .pr false,.var (.int .i64) .pr false]
def B20:List PCell:=[.var (.sl 4) .ro false,.stat ⟨(.ptr 8 0),.pt,0,false⟩,.var (.int .u64) .pr false,.var (.int .u64) .pr false,.var (.int .i64) .pr false,.var (.sl 1) (.own true) false,.var (.sl 1) (.own true) false,.var (.int .i64) .pr false]
abbrev J70:List Kd:=[.int .i64,.sl 1,.sl 2,.sl 4,.int .i64,.int .i64,.sl 4,.int .u64,.int .u64,.int .i64,.sl 1,.sl 1,.int .i64]
abbrev J71:List Kd:=[.int .i64,.sl 1,.sl 2,.sl 4,.int .i64,.int .i64]
abbrev J72:List Kd:=[.sl 4,.int .i64,.int .i64,.sl 1,.sl 2,.sl 4,.int .i64,.int .i64,.sl 4,.int .u64,.int .u64,.int .i64,.sl 1,.sl 1,.int .i64]
abbrev J73:List Kd:=[.sl 4,.agg [.sl 1,.sl 1,.sl 1],.int .i64,.int .i64]
abbrev J74:List Kd:=[.sl 1,.int .i64,.int .i64,.int .i64]
abbrev J75:List Kd:=[.sl 1,.int .i64,.int .i64,.int .i64,.int .i64]
def B21:List PCell:=[.var (.sl 7) .ro true,.var (.sl 1) .ro true,.var (.sl 1) (.own true) false,.var (.int .i64) .pr false]
abbrev J76:List Kd:=[.int .i64,.sl 1,.sl 7,.sl 1,.sl 1,.int .i64]
abbrev J77:List Kd:=[.int .i64,.sl 1,.sl 1,.int .i64,.int .i64,.sl 7,.sl 1,.sl 1,.int .i64]
abbrev J78:List Kd:=[.int .i64,.sl 1,.int .i64,.int .i64,.sl 7,.sl 1,.sl 1,.int .i64]
abbrev J79:List Kd:=[.int .i64,.sl 7,.sl 1,.sl 1,.int .i64]
abbrev J80:List Kd:=[.int .i64,.int .i64,.int .i64,.sl 7,.sl 1,.sl 1,.int .i64]
abbrev J81:List Kd:=[.int .i64,.int .i64,.sl 7,.sl 1,.sl 1,.int .i64]
abbrev J82:List Kd:=[.sl 1,.sl 7,.sl 1,.sl 1,.int .i64]
abbrev J83:List Kd:=[.sl 1,.int .i64,.int .i64,.sl 7,.sl 1,.sl 1,.int .i64]
abbrev J84:List Kd:=[.sl 7]
abbrev J85:List Kd:=[.agg [.sl 1,.sl 2,.int .i64],.str,.int .i64,.int .i64,.sl 1,.sl 1,.sl 1,.sl 7,.sl 6,.sl 1,.sl 1,.sl 1,.sl 1,.sl 4,.int .i64,.int .i64,.bool,.sl 2]
abbrev J86:List Kd:=[.agg [.str,.int .i64,.int .i64,.sl 1,.sl 1,.sl 1,.sl 7,.sl 6,.sl 1],.agg [.sl 1,.sl 1,.sl 1]]
abbrev J87:List Kd:=[.int .i64,.str,.int .i64,.int .i64,.sl 1,.sl 1,.sl 1,.sl 7,.sl 6,.sl 1,.sl 1,.sl 1,.sl 1,.int .i64,.any,.any,.sl 2,.int .i64,.int .i64,.int .i64,.int .i64,.int .i64,.int .i64,.str]
abbrev J88:List Kd:=[.sl 7,.agg [.int .i64,.int .i64,.int .i64,.int .i64,.int .i64,.str],.agg [.int .i64,.int .i64,.int .i64,.int .i64,.int .i64,.str]]
abbrev J89:List Kd:=[.sl 1,.int .i64,.int .i64,.int .i64,.bool,.bool]
abbrev J90:List Kd:=[.int .u64]
def B22:List PCell:=[.var (.int .u64) .pr false,.var (.int .u64) .pr false]
abbrev J91:List Kd:=[.int .u64,.int .u64,.int .u64,.int .u64]
abbrev J92:List Kd:=[.sl 1,.int .i64,.int .i64,.int .u64,.int .u64,.int .u64,.int .u64]
abbrev J93:List Kd:=[.agg [.int .i64,.int .i64,.int .i64,.str],.sl 4,.int .u64,.int .u64,.int .i64,.sl 1,.sl 1,.int .i64,.int .i64,.sl 1,.sl 2,.sl 4,.int .i64,.int .i64]
abbrev J96:List Kd:=[.agg [.int .u64,.int .u64],.int .i64]
abbrev J97:List Kd:=[.int .i64,.sl 4,.int .u64,.int .u64,.int .i64,.sl 1,.sl 1,.int .i64,.int .i64,.sl 1,.sl 2,.sl 4,.int .i64,.int .i64]
abbrev J98:List Kd:=[.sl 4,.int .u64,.int .u64,.int .i64,.sl 1,.sl 1,.int .i64,.int .i64,.sl 1,.sl 2,.sl 4,.int .i64,.int .i64]
abbrev J99:List Kd:=[.int .i64,.int .i64,.int .i64]
abbrev J100:List Kd:=[.bool,.sl 7,.sl 1,.sl 1,.int .i64]
abbrev J101:List Kd:=[.sl 7,.int .i64,.sl 1,.sl 7,.int .i64,.int .i64]
abbrev J102:List Kd:=[.int .i64,.sl 7]
abbrev J103:List Kd:=[.int .i64,.int .i64,.agg [.str,.int .i64],.sl 4,.int .u64,.int .u64,.int .i64,.sl 1,.sl 1,.int .i64,.int .i64,.sl 1,.sl 2,.sl 4,.int .i64,.int .i64]
abbrev J104:List Kd:=[.sl 1,.sl 7,.int .i64]
def B23:List PCell:=[.stat ⟨(.ptr 1 0),.pt,0,true⟩]
def B24:List PCell:=[.var .str .pr false,.var (.int .i64) .pr false,.var (.int .i64) .pr false,.var (.sl 1) .ro true,.var (.sl 1) .ro true,.var (.sl 1) .ro true,.var (.sl 7) .ro true,.var (.sl 6) .ro true,.var (.sl 1) .ro true,.var (.sl 1) .ro true,.var (.sl 1) .ro true,.var (.sl 1) .ro true,.var (.int .i64) .pr false,.var .any .ro true,.var .any .ro true,.var (.sl 2) .ro true,.var (.int .i64) .pr false]
abbrev J105:List Kd:=[.sl 1,.int .i64,.str,.int .i64,.int .i64,.sl 1,.sl 1,.sl 1,.sl 7,.sl 6,.sl 1,.sl 1,.sl 1,.sl 1,.int .i64,.any,.any,.sl 2,.int .i64,.int .i64,.int .i64,.int .i64,.int .i64,.int .i64,.str]
abbrev J106:List Kd:=[.sl 1,.int .i64,.int .i64,.str,.int .i64,.int .i64,.sl 1,.sl 1,.sl 1,.sl 7,.sl 6,.sl 1,.sl 1,.sl 1,.sl 1,.int .i64,.any,.any,.sl 2,.int .i64,.int .i64,.int .i64,.int .i64,.int .i64,.int .i64,.str]
abbrev J107:List Kd:=[.sl 1,.str,.int .i64,.int .i64,.sl 1,.sl 1,.sl 1,.sl 7,.sl 6,.sl 1,.sl 1,.sl 1,.sl 1,.int .i64,.any,.any,.sl 2,.int .i64,.int .i64,.int .i64,.int .i64,.int .i64,.int .i64,.str]
abbrev J108:List Kd:=[.sl 1,.int .i64,.int .i64,.sl 7,.int .i64]
abbrev J109:List Kd:=[.sl 1,.int .i64,.sl 7]
abbrev J110:List Kd:=[.sl 1,.int .i64,.int .i64,.sl 7]
abbrev J111:List Kd:=[.sl 1,.sl 7]
abbrev J112:List Kd:=[.str,.int .i64,.int .i64,.sl 1,.sl 1,.sl 1,.sl 7,.sl 6,.sl 1,.sl 1,.sl 1,.sl 1,.int .i64,.any,.any,.sl 2,.int .i64,.int .i64,.int .i64,.int .i64,.int .i64,.int .i64,.str]
set_option maxHeartbeats 4000000
def P5_0h:Pat:={tmps:=unds [] 5 (unds [pI,pI,pU,pS 8,.var (.sl 4) (.own true),pI] 126 []),boxes:=nons [] 8 (nons [some B0] 128 [])}
def P5_0x:Pat:={tmps:=unds [] 5 (unds [pI,pI,pU,pS 8,.var (.sl 4) (.own true)] 127 []),boxes:=nons [] 8 (nons [some B0] 128 [])}
def P5_2h:Pat:={tmps:=unds [] 5 (unds [pI,pI,pU,pU,pU,pU,pS 11,.var .bool .pr,pI,pI] 122 []),boxes:=nons [] 11 (nons [some B1] 125 [])}
def P5_2x:Pat:={tmps:=unds [] 5 (unds [pI,pI,pU,pU,pU,pU,pS 11,.var .bool .pr,pI] 123 []),boxes:=nons [] 11 (nons [some B1] 125 [])}
def P5_2r:Pat:={tmps:=unds [pU,pU,pU,pU,.var .bool .pr] 132 [],boxes:=nons [] 137 []}
def b5_0{R:Type}(G:ORC R)(k:Nat)(X:Cu R J5)(Ko:Cu R J4)(a b:Int)(c:LV)(d:Int)(e:ByteArray)(f g:Int)(h i l m n o:LV):OV R:=
 (bif(decide (d<a))then(bif(decide (List.length c+2≤1073741824))then(X a b (c++[(.agg [(.int .i64 1),(.int .i64 0),(.int .i64 d),(.str ⟨#[]⟩)]),(.agg [(.int .i64 19),(.int .i64 0),(.int .i64 0),(.str ⟨#[120]⟩)])]) (IntKind.i64.wrap (d+1)) e f g h i l m n o)else none)else(Ko a b c e f g h i l m n o))
def l5_0g{R:Type}(G:ORC R)(k:Nat)(Ko:Cu R J4)(j:Nat):Cu R J5:=lup J5 (fun X=>b5_0 G k X Ko) j
def l5_0{R:Type}(G:ORC R)(k:Nat)(a b:Int)(c:LV)(d:Int)(e:ByteArray)(f g:Int)(h i l m n o:LV)(Ko:Cu R J4):OV R:=l5_0g G k Ko k a b c d e f g h i l m n o
def b5_2{R:Type}(G:ORC R)(k:Nat)(X:Cu R J8)(Ko:Cu R J6)(Kr:Cu R J7)(a b:Int)(c:Bool)(d e:Int)(f g h i:LV)(l m:Int)(n:Bool):OV R:=
 (bif(decide (e<d))then(bif((decide (0≤e))&&(decide (e<(i.length:Int))))then(nthK i (Int.toNat e) fun o=>V.asAgg o fun o=>ce4 o fun o p q r=>V.asInt o fun o s=>bif((decide (o= .i64))&&true)then(V.asInt p fun o p=>bif((decide (o= .i64))&&true)then(V.asStr q fun o=>V.asInt r fun q r=>bif((decide (q= .i64))&&true)then(bif(!((s==1)&&((p==0)&&((ByteArray.toList o==ByteArray.toList ⟨#[121]⟩)&&((r==e)&&true)))))then(Kr false)else(X a b c d (IntKind.i64.wrap (e+1)) f g h i l m n))else none)else none)else none)else none)else(Ko a b c d f g h i l m n))
def l5_2g{R:Type}(G:ORC R)(k:Nat)(Ko:Cu R J6)(Kr:Cu R J7)(j:Nat):Cu R J8:=lup J8 (fun X=>b5_2 G k X Ko Kr) j
def l5_2{R:Type}(G:ORC R)(k:Nat)(a b:Int)(c:Bool)(d e:Int)(f g h i:LV)(l m:Int)(n:Bool)(Ko:Cu R J6)(Kr:Cu R J7):OV R:=l5_2g G k Ko Kr k a b c d e f g h i l m n
def L5{R:Type}(G:ORC R)(k:Nat):Nat→St→(Ex→St→OV R)→OV R
 |0,S,K=>P5_0h.mat S fun vs=>uc J5 (l5_0g G k (koX J4 P5_0x K) k) vs none
 |2,S,K=>P5_2h.mat S fun vs=>uc J8 (l5_2g G k (koX J6 P5_2x K) (koR J7 P5_2r K) k) vs none
 |_,_,_=>none
def f5{R:Type}(G:ORC R)(k:Nat)(a b:Int)(K:LV→OV R):OV R:=
 (l5_0 G k (IntKind.i64.wrap (1+(Int.tmod (IntKind.i64.wrap a) 12))) (IntKind.i64.wrap (2+(Int.tmod (IntKind.i64.wrap b) 15))) [] 0 ⟨#[99]⟩ (IntKind.i64.wrap (2+(Int.tmod (IntKind.i64.wrap b) 15))) 100 [] [.str ⟨#[112]⟩] [] [.agg [.int .i64 2,.int .i64 (-1),.int .i64 1,.int .i64 1,.int .i64 (-1),.int .i64 (-1),.str ⟨#[]⟩],.agg [.int .i64 1,.int .i64 0,.int .i64 1,.int .i64 (-1),.int .i64 (-1),.int .i64 (-1),.str ⟨#[97]⟩]] [] [] (fun a b c d e f g h i l m n=>G 14 [.agg [.str d,.int .i64 e,.int .i64 f,.sl 1 g,.sl 1 h,.sl 1 i,.sl 7 l,.sl 6 [.agg [.int .i64 1,.int .i64 (-1),.int .i64 (-1),.int .i64 (-1),.int .i64 0,.str ⟨#[103,111]⟩],.agg [.int .i64 1,.int .i64 (-1),.int .i64 (-1),.int .i64 (-1),.int .i64 1,.str ⟨#[120]⟩],.agg [.int .i64 1,.int .i64 (-1),.int .i64 (-1),.int .i64 (-1),.int .i64 2,.str ⟨#[101,114,114,111,114]⟩]],.sl 1 [.sl 4 c,.sl 4 [.agg [.int .i64 3,.int .i64 0,.int .i64 0,.str ⟨#[]⟩],.agg [.int .i64 20,.int .i64 0,.int .i64 0,.str ⟨#[121]⟩]],.sl 4 [.agg [.int .i64 3,.int .i64 0,.int .i64 0,.str ⟨#[]⟩],.agg [.int .i64 20,.int .i64 0,.int .i64 0,.str ⟨#[98,97,100]⟩]]]]] fun m=>uA m fun m n=>uL 1 m fun m o=>uL 1 o fun o p=>uL 1 p fun p q=>uL 4 q fun q r=>uI .i64 r fun q r=>uI .i64 r fun q r=>uB r fun q r=>unNil r (unNil n (G 13 [.agg [.str d,.int .i64 e,.int .i64 f,.sl 1 g,.sl 1 h,.sl 1 i,.sl 7 l,.sl 6 [.agg [.int .i64 1,.int .i64 (-1),.int .i64 (-1),.int .i64 (-1),.int .i64 0,.str ⟨#[103,111]⟩],.agg [.int .i64 1,.int .i64 (-1),.int .i64 (-1),.int .i64 (-1),.int .i64 1,.str ⟨#[120]⟩],.agg [.int .i64 1,.int .i64 (-1),.int .i64 (-1),.int .i64 (-1),.int .i64 2,.str ⟨#[101,114,114,111,114]⟩]],.sl 1 [.sl 4 c,.sl 4 [.agg [.int .i64 3,.int .i64 0,.int .i64 0,.str ⟨#[]⟩],.agg [.int .i64 20,.int .i64 0,.int .i64 0,.str ⟨#[121]⟩]],.sl 4 [.agg [.int .i64 3,.int .i64 0,.int .i64 0,.str ⟨#[]⟩],.agg [.int .i64 20,.int .i64 0,.int .i64 0,.str ⟨#[98,97,100]⟩]]]],.agg [.sl 1 m,.sl 1 o,.sl 1 p],.agg [.str ⟨#[103,111]⟩,.int .i64 0]] fun c=>uA c fun c d=>uL 1 c fun c e=>uL 1 e fun e f=>uL 1 f fun f g=>uL 4 g fun g h=>uI .i64 h fun h i=>uI .i64 i fun i l=>uB l fun l m=>unNil m (unNil d (bif(decide ((IntKind.i64.wrap (a+1))>(IntKind.i64.wrap (b-1))))then(bif(!(l==(decide ((IntKind.i64.wrap (a+1))>(IntKind.i64.wrap (b-1))))))then(K [.bool false])else(bif(decide ((g.length:Int)<(IntKind.i64.wrap (b-2))))then(K [.bool false])else(l5_2 G k a b (decide ((IntKind.i64.wrap (a+1))>(IntKind.i64.wrap (b-1)))) (IntKind.i64.wrap (b-2)) 0 c e f g h i l (fun d m n o p q r s p q r=>bif(!n)then(bif((s.length:Int)==d)then(bif(q==(IntKind.i64.wrap (d+1)))then(G 15 [] fun d=>uB d fun d n=>unNil n (K [.bool d]))else(K [.bool false]))else(K [.bool false]))else(bif((s.length:Int)==(IntKind.i64.wrap (o+1)))then(bif(q==m)then(bif((decide (0≤o))&&(decide (o<(s.length:Int))))then(nthK s (Int.toNat o) fun d=>ca4 d fun d m n o=>V.asStr n fun d=>V.asInt o fun m n=>bif((decide (m= .i64))&&true)then(bif((ByteArray.toList d==ByteArray.toList ⟨#[98,97,100]⟩)&&((n==5)&&true))then(G 15 [] fun d=>uB d fun d m=>unNil m (K [.bool d]))else(K [.bool false]))else none)else none)else(K [.bool false]))else(K [.bool false]))) (fun d=>K [.bool d]))))else(bif(!(l==(decide ((IntKind.i64.wrap (a+1))>(IntKind.i64.wrap (b-1))))))then(K [.bool false])else(bif(decide ((g.length:Int)<a))then(K [.bool false])else(l5_2 G k a b (decide ((IntKind.i64.wrap (a+1))>(IntKind.i64.wrap (b-1)))) a 0 c e f g h i l (fun a b c d e f g h e f g=>bif(!c)then(bif((h.length:Int)==a)then(bif(f==(IntKind.i64.wrap (a+1)))then(G 15 [] fun a=>uB a fun a c=>unNil c (K [.bool a]))else(K [.bool false]))else(K [.bool false]))else(bif((h.length:Int)==(IntKind.i64.wrap (d+1)))then(bif(f==b)then(bif((decide (0≤d))&&(decide (d<(h.length:Int))))then(nthK h (Int.toNat d) fun a=>ca4 a fun a b c d=>V.asStr c fun a=>V.asInt d fun b c=>bif((decide (b= .i64))&&true)then(bif((ByteArray.toList a==ByteArray.toList ⟨#[98,97,100]⟩)&&((c==5)&&true))then(G 15 [] fun a=>uB a fun a b=>unNil b (K [.bool a]))else(K [.bool false]))else none)else none)else(K [.bool false]))else(K [.bool false]))) (fun a=>K [.bool a]))))))))))
abbrev g5 {R:Type} (G:ORC R) (k:Nat):LV→(LV→OV R)→OV R:=gF J9 (f5 G k)
theorem s5{R:Type}{G:ORC R}{k:Nat}(hG:Sound Try.prog TAB G):TL 5 (g5 G k):=
 gG J9 (by kernel_rfl) (callF_sound (L:=L5 G k) (f:=5) TAB_chk MO hG Try.func5 (sg:=S5) (by kernel_rfl) (by kernel_rfl) (las [0,2] (by kernel_rfl) ⟨loopIs J5 k (fun K X=>b5_0 G k X (koX J4 P5_0x K)) P5_0h P5_0x default (by kernel_rfl) (by kernel_rfl) (by kernel_rfl) (fun K X=>by kernel_rfl) (fun S K=>by kernel_rfl),loopIs J8 k (fun K X=>b5_2 G k X (koX J6 P5_2x K) (koR J7 P5_2r K)) P5_2h P5_2x P5_2r (by kernel_rfl) (by kernel_rfl) (by kernel_rfl) (fun K X=>by kernel_rfl) (fun S K=>by kernel_rfl),trivial⟩))
def f6{R:Type}(G:ORC R)(k:Nat)(a:ByteArray)(b c:Int)(d e f g h i l m n:LV)(o:ByteArray)(p:Int)(K:LV→OV R):OV R:=
 (G 16 [.str o,.bool (!(ByteArray.toList o==ByteArray.toList ⟨#[]⟩)),.str a,.int .i64 b,.int .i64 c,.sl 1 d,.sl 1 e,.sl 1 f,.sl 7 g,.sl 6 h,.sl 1 i,.sl 1 l,.sl 1 m,.sl 1 n,.int .i64 p,.mp [],.sl 1 [],.sl 2 [],.int .i64 0] fun a=>uA a fun a b=>uL 1 a fun a c=>uL 2 c fun c d=>uI .i64 d fun d e=>unNil e (uS b fun b e=>uI .i64 e fun b e=>uI .i64 e fun b e=>uI .i64 e fun b e=>unCons e fun b e=>unCons e fun b e=>unCons e fun b e=>uI .i64 e fun b e=>unNil e (K [.agg [.sl 1 a,.sl 2 c,.int .i64 d]])))
abbrev g6 {R:Type} (G:ORC R) (k:Nat):LV→(LV→OV R)→OV R:=gF J10 (f6 G k)
theorem s6{R:Type}{G:ORC R}{k:Nat}(hG:Sound Try.prog TAB G):TL 6 (g6 G k):=
 gG J10 (by kernel_rfl) (callF_sound (L:=fun _ _ _=>none) (f:=6) TAB_chk MO hG Try.func6 (sg:=S6) (by kernel_rfl) (by kernel_rfl) (las [] (by kernel_rfl) trivial))
def P10_0h:Pat:={tmps:=unds [pU,pU,pL,pU,pS 4,pU,pU,pU,pS 8,pS 27,.var (.sl 1) (.own true),.var (.sl 2) (.own true)] 16 (unds [pL,pI,pI] 127 []),boxes:=nons [none,none,none,none,some B0,none,none,none,some B2] 18 (nons [some B3] 130 [])}
def P10_0x:Pat:={tmps:=unds [pU,pU,pL,pU,pS 4,pU,pU,pU,pS 8,pS 27,.var (.sl 1) (.own true),.var (.sl 2) (.own true)] 146 [],boxes:=nons [none,none,none,none,some B0,none,none,none,some B2] 18 (nons [some B3] 130 [])}
def P10_2h:Pat:={tmps:=unds [pU,pU,pL,pU,pS 4,pU,pU,pU,pS 8,pS 27,pU,.var (.sl 2) (.own true),pU,pU,pU,.stat (.one (.ptr 27 10) .pt),.var (.sl 1) (.own true)] 79 (unds [.stat (.ref (.s 16) 0),pI,pI] 59 []),boxes:=nons [none,none,none,none,some B0,none,none,none,some B2] 18 (nons [some B3] 130 [])}
def P10_2x:Pat:={tmps:=unds [pU,pU,pL,pU,pS 4,pU,pU,pU,pS 8,pS 27,pU,.var (.sl 2) (.own true),pU,pU,pU,.stat (.one (.ptr 27 10) .pt)] 142 [],boxes:=nons [none,none,none,none,some B0,none,none,none,some B2] 18 (nons [some B3] 130 [])}
def P10_4h:Pat:={tmps:=unds [pU,pU,pU,pU,pS 4,pU,pU,pU,pS 8,pS 27,pU,.var (.sl 2) (.own true),pU,pU,pU,.stat (.one (.ptr 27 10) .pt)] 104 (unds [pL,pI,pI] 35 []),boxes:=nons [none,none,none,none,some B0,none,none,none,some B2] 18 (nons [some B3] 130 [])}
def P10_4x:Pat:={tmps:=unds [pU,pU,pU,pU,pS 4,pU,pU,pU,pS 8,pS 27,pU,.var (.sl 2) (.own true),pU,pU,pU,.stat (.one (.ptr 27 10) .pt)] 142 [],boxes:=nons [none,none,none,none,some B0,none,none,none,some B2] 18 (nons [some B3] 130 [])}
def b10_0{R:Type}(G:ORC R)(k:Nat)(X:Cu R J16)(Ko:Cu R J15)(a b c d:LV)(e f:Int)(g:ByteArray)(h i:Int)(l m n o p q r s t u v:LV)(w:Int)(x:ByteArray)(y z:Int)(A B C D E F:LV)(H:Int)(I J L M N:LV)(O:Int):OV R:=
 (bif(decide (f<e))then(bif((decide (0≤f))&&(decide (f<(d.length:Int))))then(nthK d (Int.toNat f) fun P=>aI .i64 P fun P=>bif(decide (P<0))then(X a b c d e (IntKind.i64.wrap (f+1)) g h i l m n o p q r s t u v w x y z A B C D E F H I J L M N O)else(bif(decide (P≥(p.length:Int)))then(X a b c d e (IntKind.i64.wrap (f+1)) g h i l m n o p q r s t u v w x y z A B C D E F H I J L M N O)else(bif((decide (0≤P))&&(decide (P<(p.length:Int))))then(nthK p (Int.toNat P) fun P=>V.asAgg P fun P=>ce6 P fun P Q S T U W=>aI .i64 P fun P=>aI .i64 Q fun P=>aI .i64 S fun Q=>aI .i64 T fun S=>aI .i64 U fun S=>V.asStr W fun S=>bif(decide (List.length b+1≤1073741824))then(bif(decide (List.length c+1≤1073741824))then(X a (b++[.int .i64 Q]) (c++[.agg [.int .i64 P,.int .i64 Q]]) d e (IntKind.i64.wrap (f+1)) g h i l m n o p q r s t u v w x y z A B C D E F H I J L M N O)else none)else none)else none)))else none)else(Ko a b c g h i l m n o p q r s t u v w x y z A B C D E F H I J L M N O))
def l10_0g{R:Type}(G:ORC R)(k:Nat)(Ko:Cu R J15)(j:Nat):Cu R J16:=lup J16 (fun X=>b10_0 G k X Ko) j
def l10_0{R:Type}(G:ORC R)(k:Nat)(a b c d:LV)(e f:Int)(g:ByteArray)(h i:Int)(l m n o p q r s t u v:LV)(w:Int)(x:ByteArray)(y z:Int)(A B C D E F:LV)(H:Int)(I J L M N:LV)(O:Int)(Ko:Cu R J15):OV R:=l10_0g G k Ko k a b c d e f g h i l m n o p q r s t u v w x y z A B C D E F H I J L M N O
def b10_2{R:Type}(G:ORC R)(k:Nat)(X:Cu R J18)(Ko:Cu R J17)(a b c:LV)(d e:Int)(f:ByteArray)(g h:Int)(i l m n o p q r s t u:LV)(v:Int)(w:ByteArray)(x y:Int)(z A B C D E:LV)(F:Int)(H I J L M:LV)(N:Int):OV R:=
 (bif(decide (e<d))then(bif((decide (0≤e))&&(decide (e<(c.length:Int))))then(nthK c (Int.toNat e) fun O=>aI .i64 O fun O=>bif((decide (0≤O))&&(decide (O<(n.length:Int))))then(nthK n (Int.toNat O) fun P=>ca7 P fun P Q S T P Q S=>aI .i64 Q fun P=>G 25 [.int .i64 P,.str w,.int .i64 x,.int .i64 y,.sl 1 z,.sl 1 A,.sl 1 B,.sl 7 C,.sl 6 D,.sl 1 E,.int .i64 F,.sl 1 H,.sl 1 I,.sl 1 J,.sl 2 L,.sl 4 M,.int .i64 N] fun P=>uS P fun P Q=>uI .i64 Q fun Q S=>uI .i64 S fun S T=>uI .i64 T fun T U=>uL 1 U fun U W=>uL 2 W fun W Y=>uL 4 Y fun Y Z=>uI .i64 Z fun Z aa=>unNil aa (G 65562 [.sl 1 H,.int .i64 O] fun O=>uL 1 O fun O aa=>uI .i64 aa fun aa ac=>unNil ac (X a b c d (IntKind.i64.wrap (e+1)) f g h i l m n o p q r s t u v P Q S z A B C D E T O U J W Y Z)))else none)else none)else(Ko a b f g h i l m n o p q r s t u v w x y z A B C D E F H I J L M N))
def l10_2g{R:Type}(G:ORC R)(k:Nat)(Ko:Cu R J17)(j:Nat):Cu R J18:=lup J18 (fun X=>b10_2 G k X Ko) j
def l10_2{R:Type}(G:ORC R)(k:Nat)(a b c:LV)(d e:Int)(f:ByteArray)(g h:Int)(i l m n o p q r s t u:LV)(v:Int)(w:ByteArray)(x y:Int)(z A B C D E:LV)(F:Int)(H I J L M:LV)(N:Int)(Ko:Cu R J17):OV R:=l10_2g G k Ko k a b c d e f g h i l m n o p q r s t u v w x y z A B C D E F H I J L M N
def b10_4{R:Type}(G:ORC R)(k:Nat)(X:Cu R J20)(Ko:Cu R J19)(a b:LV)(c d:Int)(e:ByteArray)(f g:Int)(h i l m n o p q r s t:LV)(u:Int)(v:ByteArray)(w x:Int)(y z A B C D:LV)(E:Int)(F H I J L:LV)(M:Int):OV R:=
 (bif(decide (d<c))then(bif((decide (0≤d))&&(decide (d<(b.length:Int))))then(nthK b (Int.toNat d) fun N=>aI .i64 N fun N=>bif(decide (N≥0))then(bif(decide (N<(n.length:Int)))then(bif((decide (0≤N))&&(decide (N<(n.length:Int))))then(nthK n (Int.toNat N) fun N=>ca6 N fun N O P Q N O=>aI .i64 N fun N=>G 25 [.int .i64 N,.str v,.int .i64 w,.int .i64 x,.sl 1 y,.sl 1 z,.sl 1 A,.sl 7 B,.sl 6 C,.sl 1 D,.int .i64 E,.sl 1 F,.sl 1 H,.sl 1 I,.sl 2 J,.sl 4 L,.int .i64 M] fun N=>uS N fun N O=>uI .i64 O fun O P=>uI .i64 P fun P Q=>uI .i64 Q fun Q S=>uL 1 S fun S T=>uL 2 T fun T U=>uL 4 U fun U W=>uI .i64 W fun W Y=>unNil Y (X a b c (IntKind.i64.wrap (d+1)) e f g h i l m n o p q r s t u N O P y z A B C D Q F S I T U W))else none)else(X a b c (IntKind.i64.wrap (d+1)) e f g h i l m n o p q r s t u v w x y z A B C D E F H I J L M))else(X a b c (IntKind.i64.wrap (d+1)) e f g h i l m n o p q r s t u v w x y z A B C D E F H I J L M))else none)else(Ko a e f g h i l m n o p q r s t u v w x y z A B C D E F H I J L M))
def l10_4g{R:Type}(G:ORC R)(k:Nat)(Ko:Cu R J19)(j:Nat):Cu R J20:=lup J20 (fun X=>b10_4 G k X Ko) j
def l10_4{R:Type}(G:ORC R)(k:Nat)(a b:LV)(c d:Int)(e:ByteArray)(f g:Int)(h i l m n o p q r s t:LV)(u:Int)(v:ByteArray)(w x:Int)(y z A B C D:LV)(E:Int)(F H I J L:LV)(M:Int)(Ko:Cu R J19):OV R:=l10_4g G k Ko k a b c d e f g h i l m n o p q r s t u v w x y z A B C D E F H I J L M
def L10{R:Type}(G:ORC R)(k:Nat):Nat→St→(Ex→St→OV R)→OV R
 |0,S,K=>P10_0h.mat S fun vs=>uc J16 (l10_0g G k (koX J15 P10_0x K) k) vs none
 |2,S,K=>P10_2h.mat S fun vs=>uc J18 (l10_2g G k (koX J17 P10_2x K) k) vs none
 |4,S,K=>P10_4h.mat S fun vs=>uc J20 (l10_4g G k (koX J19 P10_4x K) k) vs none
 |_,_,_=>none
def f10{R:Type}(G:ORC R)(k:Nat)(a:ByteArray)(b c:Int)(d e f g h i l m n o:LV)(p:Int)(K:LV→OV R):OV R:=
 (G 22 [.agg [.sl 1 l,.sl 1 m,.sl 1 n]] fun l=>uA l fun l m=>uL 1 l fun l n=>uL 1 n fun n q=>uL 1 q fun q r=>unNil r (unNil m (l10_0 G k o [] [] o (o.length:Int) 0 a b c d e f g h i [] [] [] [] [] 0 a b c d e f g h i p l n q [] [] 0 (fun a b c d e f g h i l m n o p q r s t u v w x y z A B C D E F H I J L=>bif((c.length:Int)==0)then(K [.agg [.sl 1 E,.sl 1 F,.sl 1 H,.sl 2 I,.sl 4 J,.int .i64 L]])else(G 23 [.sl 7 l,.sl 1 E,.sl 1 b] fun b=>uL 1 b fun b M=>unNil M (G 24 [.sl 7 l,.sl 1 E,.sl 1 b,.sl 1 H] fun H=>uL 1 H fun H M=>unNil M (l10_2 G k a c b (b.length:Int) 0 d e f g h i l m n o p q r s t u v w x y z A B C D E F H I J L (fun a b c d e f g h i l m n o p q r s t u v w x y z A B C D E F H I J=>l10_4 G k b a (a.length:Int) 0 c d e f g h i l m n o p q r s t u v w x y z A B C D E F H I J (fun a b c d e b c d e b c f e b c f e b c f g h i l m n o p q r s t=>G 29 [.sl 7 d,.sl 2 a,.sl 1 q] fun a=>uL 1 a fun a d=>unNil d (G 28 [.sl 1 a,.str e,.int .i64 b,.int .i64 c,.sl 1 f,.sl 1 g,.sl 1 h,.sl 7 i,.sl 6 l,.sl 1 m,.int .i64 n,.sl 1 o,.sl 1 p,.sl 1 q,.sl 2 r,.sl 4 s,.int .i64 t] fun a=>uS a fun a b=>uI .i64 b fun a b=>uI .i64 b fun a b=>uI .i64 b fun a b=>uL 1 b fun a b=>uL 1 b fun b c=>uL 2 c fun c d=>uL 4 d fun d e=>uI .i64 e fun e f=>unNil f (K [.agg [.sl 1 a,.sl 1 b,.sl 1 q,.sl 2 c,.sl 4 d,.int .i64 e]])))))))))))
abbrev g10 {R:Type} (G:ORC R) (k:Nat):LV→(LV→OV R)→OV R:=gF J21 (f10 G k)
theorem s10{R:Type}{G:ORC R}{k:Nat}(hG:Sound Try.prog TAB G):TL 10 (g10 G k):=
 gG J21 (by kernel_rfl) (callF_sound (L:=L10 G k) (f:=10) TAB_chk MO hG Try.func10 (sg:=S10) (by kernel_rfl) (by kernel_rfl) (las [0,2,4] (by kernel_rfl) ⟨loopIs J16 k (fun K X=>b10_0 G k X (koX J15 P10_0x K)) P10_0h P10_0x default (by kernel_rfl) (by kernel_rfl) (by kernel_rfl) (fun K X=>by kernel_rfl) (fun S K=>by kernel_rfl),loopIs J18 k (fun K X=>b10_2 G k X (koX J17 P10_2x K)) P10_2h P10_2x default (by kernel_rfl) (by kernel_rfl) (by kernel_rfl) (fun K X=>by kernel_rfl) (fun S K=>by kernel_rfl),loopIs J20 k (fun K X=>b10_4 G k X (koX J19 P10_4x K)) P10_4h P10_4x default (by kernel_rfl) (by kernel_rfl) (by kernel_rfl) (fun K X=>by kernel_rfl) (fun S K=>by kernel_rfl),trivial⟩))
def f13{R:Type}(G:ORC R)(k:Nat)(a:ByteArray)(b c:Int)(d e f g h i l m n:LV)(o:ByteArray)(p:Int)(K:LV→OV R):OV R:=
 (G 31 [.agg [.str o,.int .i64 p],.str a,.int .i64 b,.int .i64 c,.sl 1 d,.sl 1 e,.sl 1 f,.sl 7 g,.sl 6 h,.sl 1 i,.sl 1 l,.sl 1 m,.sl 1 n,.sl 4 [],.int .i64 0,.int .i64 0,.bool false,.sl 2 []] fun a=>uS a fun a b=>uI .i64 b fun b c=>uI .i64 c fun c l=>uL 1 l fun l m=>uL 1 m fun m n=>uL 1 n fun n o=>uL 4 o fun o p=>uI .i64 p fun p q=>uI .i64 q fun q r=>uB r fun r s=>uL 2 s fun s t=>unNil t (G 32 [.str a,.int .i64 b,.int .i64 c,.sl 1 d,.sl 1 e,.sl 1 f,.sl 7 g,.sl 6 h,.sl 1 i,.sl 1 l,.sl 1 m,.sl 1 n,.sl 4 o,.int .i64 p,.int .i64 q,.bool r,.sl 2 s] fun a=>uA a fun a b=>uL 1 a fun a c=>uL 1 c fun c d=>uL 1 d fun d e=>uL 4 e fun e f=>uI .i64 f fun f g=>uI .i64 g fun g h=>uB h fun h i=>unNil i (uS b fun b i=>uI .i64 i fun b i=>uI .i64 i fun b i=>uL 1 i fun b i=>uL 1 i fun b i=>uL 1 i fun b i=>unCons i fun b i=>uI .i64 i fun b i=>uI .i64 i fun b i=>uB i fun b i=>uL 2 i fun b i=>unNil i (K [.agg [.sl 1 a,.sl 1 c,.sl 1 d,.sl 4 e,.int .i64 f,.int .i64 g,.bool h]]))))
abbrev g13 {R:Type} (G:ORC R) (k:Nat):LV→(LV→OV R)→OV R:=gF J10 (f13 G k)
theorem s13{R:Type}{G:ORC R}{k:Nat}(hG:Sound Try.prog TAB G):TL 13 (g13 G k):=
 gG J10 (by kernel_rfl) (callF_sound (L:=fun _ _ _=>none) (f:=13) TAB_chk MO hG Try.func13 (sg:=S13) (by kernel_rfl) (by kernel_rfl) (las [] (by kernel_rfl) trivial))
def f14{R:Type}(G:ORC R)(k:Nat)(a:ByteArray)(b c:Int)(d e f g h i:LV)(K:LV→OV R):OV R:=
 (G 30 [.agg [.str a,.int .i64 b,.int .i64 c,.sl 1 d,.sl 1 e,.sl 1 f,.sl 7 g,.sl 6 h,.sl 1 i]] fun l=>uA l fun l m=>uL 1 l fun l n=>uL 1 n fun n o=>uL 1 o fun o p=>uL 2 p fun p q=>uL 4 q fun q r=>uI .i64 r fun r s=>unNil s (unNil m (G 33 [.agg [.sl 1 l,.sl 1 n,.sl 1 o,.sl 2 p,.sl 4 q,.int .i64 r],.str a,.int .i64 b,.int .i64 c,.sl 1 d,.sl 1 e,.sl 1 f,.sl 7 g,.sl 6 h,.sl 1 i,.sl 1 [],.sl 1 [],.sl 1 [],.sl 4 [],.int .i64 0,.int .i64 0,.bool false,.sl 2 []] fun a=>uS a fun a b=>uI .i64 b fun b c=>uI .i64 c fun c l=>uL 1 l fun l m=>uL 1 m fun m n=>uL 1 n fun n o=>uL 4 o fun o p=>uI .i64 p fun p q=>uI .i64 q fun q r=>uB r fun r s=>uL 2 s fun s t=>unNil t (G 32 [.str a,.int .i64 b,.int .i64 c,.sl 1 d,.sl 1 e,.sl 1 f,.sl 7 g,.sl 6 h,.sl 1 i,.sl 1 l,.sl 1 m,.sl 1 n,.sl 4 o,.int .i64 p,.int .i64 q,.bool r,.sl 2 s] fun a=>uA a fun a b=>uL 1 a fun a c=>uL 1 c fun c d=>uL 1 d fun d e=>uL 4 e fun e f=>uI .i64 f fun f g=>uI .i64 g fun g h=>uB h fun h i=>unNil i (uS b fun b i=>uI .i64 i fun b i=>uI .i64 i fun b i=>uL 1 i fun b i=>uL 1 i fun b i=>uL 1 i fun b i=>unCons i fun b i=>uI .i64 i fun b i=>uI .i64 i fun b i=>uB i fun b i=>uL 2 i fun b i=>unNil i (K [.agg [.sl 1 a,.sl 1 c,.sl 1 d,.sl 4 e,.int .i64 f,.int .i64 g,.bool h]]))))))
abbrev g14 {R:Type} (G:ORC R) (k:Nat):LV→(LV→OV R)→OV R:=gF J24 (f14 G k)
theorem s14{R:Type}{G:ORC R}{k:Nat}(hG:Sound Try.prog TAB G):TL 14 (g14 G k):=
 gG J24 (by kernel_rfl) (callF_sound (L:=fun _ _ _=>none) (f:=14) TAB_chk MO hG Try.func14 (sg:=S14) (by kernel_rfl) (by kernel_rfl) (las [] (by kernel_rfl) trivial))
def f15{R:Type}(G:ORC R)(k:Nat)(K:LV→OV R):OV R:=
 (G 14 [.agg [.str ⟨#[99]⟩,.int .i64 4,.int .i64 9,.sl 1 [],.sl 1 [],.sl 1 [],.sl 7 [.agg [.int .i64 2,.int .i64 (-1),.int .i64 1,.int .i64 1,.int .i64 (-1),.int .i64 (-1),.str ⟨#[]⟩],.agg [.int .i64 1,.int .i64 0,.int .i64 1,.int .i64 (-1),.int .i64 (-1),.int .i64 (-1),.str ⟨#[97]⟩]],.sl 6 [.agg [.int .i64 1,.int .i64 1,.int .i64 0,.int .i64 (-1),.int .i64 (-1),.str ⟨#[]⟩]],.sl 1 []]] fun a=>uA a fun a b=>uL 1 a fun a c=>uL 1 c fun c d=>uL 1 d fun d e=>uL 4 e fun e f=>uI .i64 f fun e f=>uI .i64 f fun f g=>uB g fun g h=>unNil h (unNil b (G 13 [.agg [.str ⟨#[99]⟩,.int .i64 4,.int .i64 9,.sl 1 [],.sl 1 [],.sl 1 [],.sl 7 [.agg [.int .i64 2,.int .i64 (-1),.int .i64 1,.int .i64 1,.int .i64 (-1),.int .i64 (-1),.str ⟨#[]⟩],.agg [.int .i64 1,.int .i64 0,.int .i64 1,.int .i64 (-1),.int .i64 (-1),.int .i64 (-1),.str ⟨#[97]⟩]],.sl 6 [],.sl 1 []],.agg [.sl 1 a,.sl 1 c,.sl 1 d],.agg [.str ⟨#[101]⟩,.int .i64 0]] fun a=>uA a fun a b=>uL 1 a fun a c=>uL 1 c fun a c=>uL 1 c fun a c=>uL 4 c fun a c=>uI .i64 c fun a c=>uI .i64 c fun c d=>uB d fun d h=>unNil h (unNil b (bif(f==4)then(bif g then(bif(e==4)then(bif(c==1)then(bif(!d)then(K [.bool (a==1)])else(K [.bool false]))else(K [.bool false]))else(K [.bool false]))else(K [.bool false]))else(K [.bool false]))))))
abbrev g15 {R:Type} (G:ORC R) (k:Nat):LV→(LV→OV R)→OV R:=gF J11 (f15 G k)
theorem s15{R:Type}{G:ORC R}{k:Nat}(hG:Sound Try.prog TAB G):TL 15 (g15 G k):=
 gG J11 (by kernel_rfl) (callF_sound (L:=fun _ _ _=>none) (f:=15) TAB_chk MO hG Try.func15 (sg:=S15) (by kernel_rfl) (by kernel_rfl) (las [] (by kernel_rfl) trivial))
def P16_0h:Pat:={tmps:=unds [pS 0,.var .str .pr,pU,pU,pU,pU,pS 7,.var (.sl 1) (.own true)] 21 (unds [pL,pI,pI] 34 []),boxes:=nons [some B4] 6 (nons [some B5] 59 [])}
def P16_0x:Pat:={tmps:=unds [pS 0] 5 (unds [pS 7,.var (.sl 1) (.own true)] 58 []),boxes:=nons [some B4] 6 (nons [some B5] 59 [])}
def P16_2h:Pat:={tmps:=unds [pS 0] 5 (unds [pS 7,.var (.sl 1) (.own true)] 44 (unds [.stat (.ref (.s 7) 0),pI,pI] 11 [])),boxes:=nons [some B4] 6 (nons [some B5] 59 [])}
def P16_2x:Pat:={tmps:=unds [pS 0] 5 (unds [pS 7] 59 []),boxes:=nons [some B4] 6 (nons [some B5] 59 [])}
def b16_0{R:Type}(G:ORC R)(k:Nat)(X:Cu R J26)(Ko:Cu R J25)(a:ByteArray)(b c:LV)(d e:Int)(f:ByteArray)(g h:Int)(i l m n o p q r s:LV)(t:Int)(u v w:V)(x:Int)(y z:LV)(A:Int):OV R:=
 (bif(decide (e<d))then(bif((decide (0≤e))&&(decide (e<(c.length:Int))))then(nthK c (Int.toNat e) fun B=>aI .i64 B fun B=>G 35 [.int .i64 B,.str a,.str f,.int .i64 g,.int .i64 h,.sl 1 i,.sl 1 l,.sl 1 m,.sl 7 n,.sl 6 o,.sl 1 p,.sl 1 q,.sl 1 r,.sl 1 s,.int .i64 t,u,v,w,.int .i64 x] fun B=>uI .i64 B fun B C=>uS C fun C D=>uI .i64 D fun D E=>uI .i64 E fun E F=>uI .i64 F fun F H=>unCons H fun H I=>uL 1 I fun I J=>uL 2 J fun J L=>uI .i64 L fun L M=>unNil M (bif(decide (B≥0))then(G 36 [.sl 1 b,.int .i64 B] fun M=>uB M fun M N=>unNil N (bif(!M)then(bif(decide (List.length b+1≤1073741824))then(X a (b++[.int .i64 B]) c d (IntKind.i64.wrap (e+1)) C D E i l m n o p q r s F H (.sl 1 I) (.sl 2 J) L y z A)else none)else(X a b c d (IntKind.i64.wrap (e+1)) C D E i l m n o p q r s F H (.sl 1 I) (.sl 2 J) L y z A)))else(X a b c d (IntKind.i64.wrap (e+1)) C D E i l m n o p q r s F H (.sl 1 I) (.sl 2 J) L y z A)))else none)else(Ko b f g h i l m n o p q r s t u v w x y z A))
def l16_0g{R:Type}(G:ORC R)(k:Nat)(Ko:Cu R J25)(j:Nat):Cu R J26:=lup J26 (fun X=>b16_0 G k X Ko) j
def l16_0{R:Type}(G:ORC R)(k:Nat)(a:ByteArray)(b c:LV)(d e:Int)(f:ByteArray)(g h:Int)(i l m n o p q r s:LV)(t:Int)(u v w:V)(x:Int)(y z:LV)(A:Int)(Ko:Cu R J25):OV R:=l16_0g G k Ko k a b c d e f g h i l m n o p q r s t u v w x y z A
def b16_2{R:Type}(G:ORC R)(k:Nat)(X:Cu R J28)(Ko:Cu R J27)(a:LV)(b c:Int)(d:ByteArray)(e f:Int)(g h i l m n o p q:LV)(r:Int)(s t u:V)(v:Int)(w x:LV)(y:Int):OV R:=
 (bif(decide (c<b))then(bif((decide (0≤c))&&(decide (c<(a.length:Int))))then(nthK a (Int.toNat c) fun z=>aI .i64 z fun z=>G 37 [.int .i64 z,.str d,.int .i64 e,.int .i64 f,.sl 1 g,.sl 1 h,.sl 1 i,.sl 7 l,.sl 6 m,.sl 1 n,.sl 1 o,.sl 1 p,.sl 1 q,.int .i64 r,s,t,u,.int .i64 v] fun z=>uS z fun z A=>uI .i64 A fun A B=>uI .i64 B fun B C=>uI .i64 C fun C D=>unCons D fun D E=>uL 1 E fun E F=>uL 2 F fun F H=>uI .i64 H fun H I=>unNil I (X a b (IntKind.i64.wrap (c+1)) z A B g h i l m n o p q C D (.sl 1 E) (.sl 2 F) H w x y))else none)else(Ko d e f g h i l m n o p q r s t u v w x y))
def l16_2g{R:Type}(G:ORC R)(k:Nat)(Ko:Cu R J27)(j:Nat):Cu R J28:=lup J28 (fun X=>b16_2 G k X Ko) j
def l16_2{R:Type}(G:ORC R)(k:Nat)(a:LV)(b c:Int)(d:ByteArray)(e f:Int)(g h i l m n o p q:LV)(r:Int)(s t u:V)(v:Int)(w x:LV)(y:Int)(Ko:Cu R J27):OV R:=l16_2g G k Ko k a b c d e f g h i l m n o p q r s t u v w x y
def L16{R:Type}(G:ORC R)(k:Nat):Nat→St→(Ex→St→OV R)→OV R
 |0,S,K=>P16_0h.mat S fun vs=>uc J26 (l16_0g G k (koX J25 P16_0x K) k) vs none
 |2,S,K=>P16_2h.mat S fun vs=>uc J28 (l16_2g G k (koX J27 P16_2x K) k) vs none
 |_,_,_=>none
def f16{R:Type}(G:ORC R)(k:Nat)(a:ByteArray)(b:Bool)(c:ByteArray)(d e:Int)(f g h i l m n o p:LV)(q:Int)(r s t:V)(u:Int)(K:LV→OV R):OV R:=
 (bif(!b)then(V.asSl s fun b v=>V.asSl t fun w x=>K [.agg [.sl b v,.sl w x,.int .i64 u],.str c,.int .i64 d,.int .i64 e,.int .i64 q,r,.undef,.undef,.int .i64 u])else(G 34 [.sl 7 i,.sl 1 n] fun b=>uL 1 b fun b v=>unNil v (l16_0 G k a [] b (b.length:Int) 0 c d e f g h i l m n o p q r s t u [] [] 0 (fun a b c d e f g h i l m n o p q r s t u v w=>l16_2 G k a (a.length:Int) 0 b c d e f g h i l m n o p q r s t u v w (fun a b c d e f g d e f g d e f g d h i l m=>V.asSl g fun g i=>V.asSl d fun d l=>K [.agg [.sl g i,.sl d l,.int .i64 h],.str a,.int .i64 b,.int .i64 c,.int .i64 e,f,.undef,.undef,.int .i64 h])))))
abbrev g16 {R:Type} (G:ORC R) (k:Nat):LV→(LV→OV R)→OV R:=gF J29 (f16 G k)
theorem s16{R:Type}{G:ORC R}{k:Nat}(hG:Sound Try.prog TAB G):TL 16 (g16 G k):=
 gG J29 (by kernel_rfl) (callF_sound (L:=L16 G k) (f:=16) TAB_chk MO hG Try.func16 (sg:=S16) (by kernel_rfl) (by kernel_rfl) (las [0,2] (by kernel_rfl) ⟨loopIs J26 k (fun K X=>b16_0 G k X (koX J25 P16_0x K)) P16_0h P16_0x default (by kernel_rfl) (by kernel_rfl) (by kernel_rfl) (fun K X=>by kernel_rfl) (fun S K=>by kernel_rfl),loopIs J28 k (fun K X=>b16_2 G k X (koX J27 P16_2x K)) P16_2h P16_2x default (by kernel_rfl) (by kernel_rfl) (by kernel_rfl) (fun K X=>by kernel_rfl) (fun S K=>by kernel_rfl),trivial⟩))
def P22_0h:Pat:={tmps:=unds [pU,pS 1,pS 2,.var (.sl 1) (.own true),pU,pU,pU,pL,pI,pI] 17 [],boxes:=nons [none,some B6,some B7] 24 []}
def P22_0x:Pat:={tmps:=unds [pU,pS 1,pS 2,.var (.sl 1) (.own true)] 23 [],boxes:=nons [none,some B6,some B7] 24 []}
def b22_0{R:Type}(G:ORC R)(k:Nat)(X:Cu R J37)(Ko:Cu R J36)(a b:LV)(c d:Int)(e f g h i l:LV):OV R:=
 (bif(decide (d<c))then(bif((decide (0≤d))&&(decide (d<(b.length:Int))))then(nthK b (Int.toNat d) fun m=>V.asSl m fun m n=>G 40 [.sl m n] fun m=>uL 1 m fun m n=>unNil n (bif(decide (List.length a+1≤1073741824))then(X (a++[.sl 1 m]) b c (IntKind.i64.wrap (d+1)) e f g h i l)else none))else none)else(Ko a e f g h i l))
def l22_0g{R:Type}(G:ORC R)(k:Nat)(Ko:Cu R J36)(j:Nat):Cu R J37:=lup J37 (fun X=>b22_0 G k X Ko) j
def l22_0{R:Type}(G:ORC R)(k:Nat)(a b:LV)(c d:Int)(e f g h i l:LV)(Ko:Cu R J36):OV R:=l22_0g G k Ko k a b c d e f g h i l
def L22{R:Type}(G:ORC R)(k:Nat):Nat→St→(Ex→St→OV R)→OV R
 |0,S,K=>P22_0h.mat S fun vs=>uc J37 (l22_0g G k (koX J36 P22_0x K) k) vs none
 |_,_,_=>none
def f22{R:Type}(G:ORC R)(k:Nat)(a b c:LV)(K:LV→OV R):OV R:=
 (l22_0 G k [] c (c.length:Int) 0 a b c [] [] [] (fun a b c d e f g=>G 40 [.sl 1 b] fun b=>uL 1 b fun b d=>unNil d (G 41 [.sl 1 c] fun c=>uL 1 c fun c d=>unNil d (K [.agg [.sl 1 b,.sl 1 c,.sl 1 a]]))))
abbrev g22 {R:Type} (G:ORC R) (k:Nat):LV→(LV→OV R)→OV R:=gF J38 (f22 G k)
theorem s22{R:Type}{G:ORC R}{k:Nat}(hG:Sound Try.prog TAB G):TL 22 (g22 G k):=
 gG J38 (by kernel_rfl) (callF_sound (L:=L22 G k) (f:=22) TAB_chk MO hG Try.func22 (sg:=S22) (by kernel_rfl) (by kernel_rfl) (las [0] (by kernel_rfl) ⟨loopIs J37 k (fun K X=>b22_0 G k X (koX J36 P22_0x K)) P22_0h P22_0x default (by kernel_rfl) (by kernel_rfl) (by kernel_rfl) (fun K X=>by kernel_rfl) (fun S K=>by kernel_rfl),trivial⟩))
def P23_0h:Pat:={tmps:=unds [pU,pU,pL,pS 3,pU,pU,pU,.var (.sl 1) (.own true),pU,pU,pL,pI,pI] 18 [],boxes:=nons [none,none,none,some [.var (.sl 7) .ro false]] 27 []}
def P23_0x:Pat:={tmps:=unds [] 7 (unds [.var (.sl 1) (.own true)] 23 []),boxes:=nons [] 31 []}
def b23_0{R:Type}(G:ORC R)(k:Nat)(X:Cu R J39)(Ko:Cu R J34)(a b c:LV)(d e:Int)(f:LV):OV R:=
 (bif(decide (e<d))then(bif((decide (0≤e))&&(decide (e<(c.length:Int))))then(nthK c (Int.toNat e) fun g=>aI .i64 g fun g=>G 65578 [.sl 1 a,.sl 7 f,.int .i64 g] fun g=>uB g fun g h=>uI .i64 h fun h i=>unNil i (bif g then(bif(decide (List.length b+1≤1073741824))then(X a (b++[.int .i64 h]) c d (IntKind.i64.wrap (e+1)) f)else none)else(X a b c d (IntKind.i64.wrap (e+1)) f)))else none)else(Ko b))
def l23_0g{R:Type}(G:ORC R)(k:Nat)(Ko:Cu R J34)(j:Nat):Cu R J39:=lup J39 (fun X=>b23_0 G k X Ko) j
def l23_0{R:Type}(G:ORC R)(k:Nat)(a b c:LV)(d e:Int)(f:LV)(Ko:Cu R J34):OV R:=l23_0g G k Ko k a b c d e f
def L23{R:Type}(G:ORC R)(k:Nat):Nat→St→(Ex→St→OV R)→OV R
 |0,S,K=>P23_0h.mat S fun vs=>uc J39 (l23_0g G k (koX J34 P23_0x K) k) vs none
 |_,_,_=>none
def f23{R:Type}(G:ORC R)(k:Nat)(a b c:LV)(K:LV→OV R):OV R:=
 (l23_0 G k c [] b (b.length:Int) 0 a (fun a=>G 45 [.sl 1 a] fun b=>unNil b (G 46 [.sl 1 a] fun a=>uL 1 a fun a b=>unNil b (G 47 [.sl 1 a] fun a=>uL 1 a fun a b=>unNil b (K [.sl 1 a])))))
abbrev g23 {R:Type} (G:ORC R) (k:Nat):LV→(LV→OV R)→OV R:=gF J40 (f23 G k)
theorem s23{R:Type}{G:ORC R}{k:Nat}(hG:Sound Try.prog TAB G):TL 23 (g23 G k):=
 gG J40 (by kernel_rfl) (callF_sound (L:=L23 G k) (f:=23) TAB_chk MO hG Try.func23 (sg:=S23) (by kernel_rfl) (by kernel_rfl) (las [0] (by kernel_rfl) ⟨loopIs J39 k (fun K X=>b23_0 G k X (koX J34 P23_0x K)) P23_0h P23_0x default (by kernel_rfl) (by kernel_rfl) (by kernel_rfl) (fun K X=>by kernel_rfl) (fun S K=>by kernel_rfl),trivial⟩))
def P24_3h:Pat:={tmps:=unds [.var (.sl 7) .ro,pL,pL,pL] 5 (unds [.var (.sl 1) (.own true),pI,pS 11] 7 (unds [.var (.sl 7) .ro,pI,pI,pU,pU,pU,pU,pL,pI,pI] 83 [])),boxes:=nons [] 11 (nons [some B8] 100 [])}
def P24_3x:Pat:={tmps:=unds [.var (.sl 7) .ro,pL,pL,pL] 5 (unds [.var (.sl 1) (.own true)] 9 (unds [.var (.sl 7) .ro,pI,pI] 90 [])),boxes:=nons [] 112 []}
def P24_0h:Pat:={tmps:=unds [.var (.sl 7) .ro,pL,pL,pL] 5 (unds [.var (.sl 1) (.own true)] 9 (unds [.var (.sl 7) .ro,pI,pI] 90 [])),boxes:=nons [] 112 []}
def P24_0x:Pat:={tmps:=unds [] 9 (unds [.var (.sl 1) (.own true)] 102 []),boxes:=nons [] 112 []}
abbrev c24_2 {R:Type} (G:ORC R) (k:Nat) (X:Cu R J42) (a:Int) (b c d e f:LV) (g:Int) (h:LV) (i l:Int) (m:LV) (n o p q r s t u:Int) (v:ByteArray):OV R:=
 (bif((decide (0≤a))&&(decide (a<(b.length:Int))))then(nthK b (Int.toNat a) fun w=>V.asSl w fun w x=>bif(w==1)then(bif(decide (List.length x+1≤1073741824))then(bif((decide (0≤a))&&(decide (a<((List.length (List.set b (Int.toNat a) .undef):Nat):Int))))then(nthK (List.set b (Int.toNat a) .undef) (Int.toNat a) fun w=>X c d e f (List.set (List.set b (Int.toNat a) .undef) (Int.toNat a) (.sl 1 (x++[.int .i64 g]))) a h i l m n (IntKind.i64.wrap (o+1)) p q r s t u v)else none)else none)else none)else none)
abbrev c24_4 {R:Type} (G:ORC R) (k:Nat) (X:Cu R J42) (a:Int) (b c d e f:LV) (g:Int) (h:LV) (i l:Int) (m:LV) (n o p q r s t:Int) (u:ByteArray):OV R:=
 (bif(a==5)then(X b c d e f g h i l m n (IntKind.i64.wrap (o+1)) a p q r s t u)else(X b c d e f g h i l m n (IntKind.i64.wrap (o+1)) a p q r s t u))
abbrev c24_0 {R:Type} (G:ORC R) (k:Nat) (X:Cu R J42) (a b c d:Int) (e f g h i:LV) (l:Int) (m:LV) (n o:Int) (p:LV) (q r s t u v:Int) (w:ByteArray):OV R:=
 (bif(a==4)then(bif(b==c)then(c24_2 G k X d e f g h i l m n o p q r a c s t u v w)else(c24_4 G k X a f g h i e d m n o p q r c s t u v w))else(c24_4 G k X a f g h i e d m n o p q r c s t u v w))
abbrev c24_1 {R:Type} (G:ORC R) (k:Nat) (X:Cu R J42) (a:Int) (b:Bool) (c:Int) (d e f g h:LV) (i:Int) (l:LV) (m n:Int) (o:LV) (p q r s t u v:Int) (w:ByteArray):OV R:=
 (bif(a==5)then(bif b then(c24_2 G k X c d e f g h i l m n o p q a r s t u v w)else(X e f g h d c l m n o p (IntKind.i64.wrap (q+1)) a r s t u v w))else(X e f g h d c l m n o p (IntKind.i64.wrap (q+1)) a r s t u v w))
abbrev c24_3 {R:Type} (G:ORC R) (k:Nat) (X:Cu R J42) (a:Int) (b c d e f:LV) (g:Int) (h:LV) (i l:Int) (m:LV) (n o p q r s t:Int) (u:ByteArray):OV R:=
 (bif(a==4)then(c24_4 G k X a b c d e f g h i l m n o p q r s t u)else(c24_4 G k X a b c d e f g h i l m n o p q r s t u))
def b24_3{R:Type}(G:ORC R)(k:Nat)(X:Cu R J42)(Ko:Cu R J41)(a b c d e:LV)(f:Int)(g:LV)(h i:Int)(l:LV)(m n o p q r s t:Int)(u:ByteArray):OV R:=
 (bif(decide (n<m))then(bif((decide (0≤n))&&(decide (n<(l.length:Int))))then(nthK l (Int.toNat n) fun v=>aI .i64 v fun v=>G 49 [.sl 7 a,.int .i64 v] fun w=>uB w fun w x=>unNil x (bif w then(bif((decide (0≤v))&&(decide (v<(a.length:Int))))then(nthK a (Int.toNat v) fun w=>ca7 w fun w x y z w A y=>aI .i64 x fun w=>G 49 [.sl 7 a,.int .i64 v] fun x=>uB x fun x y=>unNil y (bif x then(bif((decide (0≤v))&&(decide (v<(a.length:Int))))then(nthK a (Int.toNat v) fun x=>ca7 x fun x y z A B y z=>aI .i64 x fun x=>bif(x==1)then(G 44 [.sl 7 a,.int .i64 v,.int .i64 p] fun x=>uB x fun x y=>unNil y (bif(o==4)then(bif(w==p)then(c24_2 G k X f e a b c d v g h i l m n o p q r s t u)else(c24_1 G k X o x f e a b c d v g h i l m n p q r s t u))else(c24_1 G k X o x f e a b c d v g h i l m n p q r s t u)))else(c24_0 G k X o w p f e a b c d v g h i l m n q r s t u))else none)else(c24_0 G k X o w p f e a b c d v g h i l m n q r s t u)))else none)else(G 49 [.sl 7 a,.int .i64 v] fun w=>uB w fun w x=>unNil x (bif w then(bif((decide (0≤v))&&(decide (v<(a.length:Int))))then(nthK a (Int.toNat v) fun w=>ca7 w fun w x y z A x y=>aI .i64 w fun w=>bif(w==1)then(G 44 [.sl 7 a,.int .i64 v,.int .i64 p] fun w=>uB w fun w x=>unNil x (bif(o==4)then(c24_1 G k X o w f e a b c d v g h i l m n p q r s t u)else(c24_1 G k X o w f e a b c d v g h i l m n p q r s t u)))else(c24_3 G k X o a b c d e f g h i l m n p q r s t u))else none)else(c24_3 G k X o a b c d e f g h i l m n p q r s t u)))))else none)else(Ko a b c d e g h i))
def l24_3g{R:Type}(G:ORC R)(k:Nat)(Ko:Cu R J41)(j:Nat):Cu R J42:=lup J42 (fun X=>b24_3 G k X Ko) j
def l24_3{R:Type}(G:ORC R)(k:Nat)(a b c d e:LV)(f:Int)(g:LV)(h i:Int)(l:LV)(m n o p q r s t:Int)(u:ByteArray)(Ko:Cu R J41):OV R:=l24_3g G k Ko k a b c d e f g h i l m n o p q r s t u
def b24_0{R:Type}(G:ORC R)(k:Nat)(X:Cu R J41)(Ko:Cu R J34)(a b c d e f:LV)(g h:Int):OV R:=
 (bif(decide (h<g))then(bif((decide (0≤h))&&(decide (h<(f.length:Int))))then(nthK f (Int.toNat h) fun i=>V.asAgg i fun i=>ce7 i fun i l m n o p q=>aI .i64 i fun i=>aI .i64 l fun l=>aI .i64 m fun m=>aI .i64 n fun n=>aI .i64 o fun o=>aI .i64 p fun p=>V.asStr q fun q=>G 48 [.agg [.int .i64 i,.int .i64 l,.int .i64 m,.int .i64 n,.int .i64 o,.int .i64 p,.str q]] fun r=>uB r fun r s=>unNil s (bif(!r)then(X a b c d e f g (IntKind.i64.wrap (h+1)))else(G 36 [.sl 1 c,.int .i64 l] fun r=>uB r fun r s=>unNil s (bif(!r)then(bif(decide (h<(d.length:Int)))then(bif((decide (0≤h))&&(decide (h<(d.length:Int))))then(nthK d (Int.toNat h) fun r=>V.asSl r fun r s=>G 40 [.sl r s] fun r=>uL 1 r fun r s=>unNil s (bif((decide (0≤h))&&(decide (h<(e.length:Int))))then(nthK e (Int.toNat h) fun s=>X a b c d (List.set e (Int.toNat h) (.sl 1 r)) f g (IntKind.i64.wrap (h+1)))else none))else none)else(X a b c d e f g (IntKind.i64.wrap (h+1))))else(l24_3 G k a b c d e h f g h b (b.length:Int) 0 i l m n o p q (fun a b c d f g h i=>X a b c d f g h (IntKind.i64.wrap (i+1))))))))else none)else(Ko e))
def l24_0g{R:Type}(G:ORC R)(k:Nat)(Ko:Cu R J34)(j:Nat):Cu R J41:=lup J41 (fun X=>b24_0 G k X Ko) j
def l24_0{R:Type}(G:ORC R)(k:Nat)(a b c d e f:LV)(g h:Int)(Ko:Cu R J34):OV R:=l24_0g G k Ko k a b c d e f g h
def L24{R:Type}(G:ORC R)(k:Nat):Nat→St→(Ex→St→OV R)→OV R
 |3,S,K=>P24_3h.mat S fun vs=>uc J42 (l24_3g G k (koX J41 P24_3x K) k) vs none
 |0,S,K=>P24_0h.mat S fun vs=>uc J41 (l24_0g G k (koX J34 P24_0x K) k) vs none
 |_,_,_=>none
def f24{R:Type}(G:ORC R)(k:Nat)(a b c d:LV)(K:LV→OV R):OV R:=
 (bif(((decide (0≤(a.length:Int)))&&(decide ((a.length:Int)≤(a.length:Int))))&&(decide ((a.length:Int)≤1073741824)))then(l24_0 G k a b c d (List.replicate (Int.toNat (a.length:Int)) (V.sl 1 [])) a (a.length:Int) 0 (fun a=>K [.sl 1 a]))else none)
abbrev g24 {R:Type} (G:ORC R) (k:Nat):LV→(LV→OV R)→OV R:=gF J43 (f24 G k)
theorem s24{R:Type}{G:ORC R}{k:Nat}(hG:Sound Try.prog TAB G):TL 24 (g24 G k):=
 gG J43 (by kernel_rfl) (callF_sound (L:=L24 G k) (f:=24) TAB_chk MO hG Try.func24 (sg:=S24) (by kernel_rfl) (by kernel_rfl) (las [0,3] (by kernel_rfl) ⟨loopIs J41 k (fun K X=>b24_0 G k X (koX J34 P24_0x K)) P24_0h P24_0x default (by kernel_rfl) (by kernel_rfl) (by kernel_rfl) (fun K X=>by kernel_rfl) (fun S K=>by kernel_rfl),loopIs J42 k (fun K X=>b24_3 G k X (koX J41 P24_3x K)) P24_3h P24_3x default (by kernel_rfl) (by kernel_rfl) (by kernel_rfl) (fun K X=>by kernel_rfl) (fun S K=>by kernel_rfl),trivial⟩))
def f25{R:Type}(G:ORC R)(k:Nat)(a:Int)(b:ByteArray)(c d:Int)(e f g h e f:LV)(e:Int)(g h i l m:LV)(n:Int)(K:LV→OV R):OV R:=
 (bif(decide (a<0))then(K [.str b,.int .i64 c,.int .i64 d,.int .i64 e,.sl 1 h,.sl 2 l,.sl 4 m,.int .i64 n])else(bif(decide (a≥(f.length:Int)))then(K [.str b,.int .i64 c,.int .i64 d,.int .i64 e,.sl 1 h,.sl 2 l,.sl 4 m,.int .i64 n])else(bif((decide (0≤a))&&(decide (a<(f.length:Int))))then(nthK f (Int.toNat a) fun a=>V.asSl a fun a f=>G 50 [.sl a f,.agg [.sl 1 g,.sl 1 h,.sl 1 i],.int .i64 e,.int .i64 d] fun a=>uA a fun a f=>uI .i64 a fun a g=>uL 1 g fun a g=>uL 2 g fun g h=>uL 4 h fun h i=>uI .i64 i fun i o=>uI .i64 o fun o p=>unNil p (unNil f (bif(decide (List.length l+List.length g≤1073741824))then(bif(decide (List.length m+List.length h≤1073741824))then(bif(o !=0)then(bif(decide (List.length (l++g)+1≤1073741824))then(K [.str b,.int .i64 c,.int .i64 d,.int .i64 e,.sl 1 a,.sl 2 ((l++g)++[.agg [.str ⟨#[101,114,114,111,114]⟩,.int .i64 o]]),.sl 4 (m++h),.int .i64 (IntKind.i64.wrap (n+i))])else none)else(K [.str b,.int .i64 c,.int .i64 d,.int .i64 e,.sl 1 a,.sl 2 (l++g),.sl 4 (m++h),.int .i64 (IntKind.i64.wrap (n+i))]))else none)else none)))else none)))
abbrev g25 {R:Type} (G:ORC R) (k:Nat):LV→(LV→OV R)→OV R:=gF J44 (f25 G k)
theorem s25{R:Type}{G:ORC R}{k:Nat}(hG:Sound Try.prog TAB G):TL 25 (g25 G k):=
 gG J44 (by kernel_rfl) (callF_sound (L:=fun _ _ _=>none) (f:=25) TAB_chk MO hG Try.func25 (sg:=S25) (by kernel_rfl) (by kernel_rfl) (las [] (by kernel_rfl) trivial))
def f27{R:Type}(G:ORC R)(k:Nat)(a b:Int)(K:LV→OV R):OV R:=
 (K [.bool (a==b),.int .i64 b])
abbrev g27 {R:Type} (G:ORC R) (k:Nat):LV→(LV→OV R)→OV R:=gF J45 (f27 G k)
theorem s27{R:Type}{G:ORC R}{k:Nat}(hG:Sound Try.prog TAB G):TL 27 (g27 G k):=
 gG J45 (by kernel_rfl) (callF_sound (L:=fun _ _ _=>none) (f:=27) TAB_chk MO hG Try.func27 (sg:=S27) (by kernel_rfl) (by kernel_rfl) (las [] (by kernel_rfl) trivial))
def P28_0h:Pat:={tmps:=unds [pS 0] 7 (unds [pL,pI,pI] 43 []),boxes:=nons [some B9] 54 []}
def P28_0x:Pat:={tmps:=unds [] 54 [],boxes:=nons [some B9] 54 []}
def b28_0{R:Type}(G:ORC R)(k:Nat)(X:Cu R J47)(Ko:Cu R J46)(a:LV)(b c:Int)(d:ByteArray)(e f:Int)(g h i l m n:LV)(o:Int)(p q r s t:LV)(u:Int):OV R:=
 (bif(decide (c<b))then(bif((decide (0≤c))&&(decide (c<(a.length:Int))))then(nthK a (Int.toNat c) fun v=>aI .i64 v fun v=>G 52 [.sl 1 p,.int .i64 v] fun w=>uI .i64 w fun w x=>uB x fun x y=>unNil y (bif(!x)then(G 53 [.sl 1 p,.int .i64 w,.sl 1 [.int .i64 v]] fun w=>uL 1 w fun w x=>unNil x (bif((decide (0≤v))&&(decide (v<(l.length:Int))))then(nthK l (Int.toNat v) fun x=>ca7 x fun x y z A x y z=>aI .i64 x fun x=>G 25 [.int .i64 x,.str d,.int .i64 e,.int .i64 f,.sl 1 g,.sl 1 h,.sl 1 i,.sl 7 l,.sl 6 m,.sl 1 n,.int .i64 o,.sl 1 w,.sl 1 q,.sl 1 r,.sl 2 s,.sl 4 t,.int .i64 u] fun x=>uS x fun x y=>uI .i64 y fun y z=>uI .i64 z fun z A=>uI .i64 A fun A B=>uL 1 B fun B C=>uL 2 C fun C D=>uL 4 D fun D E=>uI .i64 E fun E F=>unNil F (X a b (IntKind.i64.wrap (c+1)) x y z g h i l m n A w B r C D E))else none))else(bif((decide (0≤v))&&(decide (v<(l.length:Int))))then(nthK l (Int.toNat v) fun v=>ca7 v fun v w x y v w x=>aI .i64 v fun v=>G 25 [.int .i64 v,.str d,.int .i64 e,.int .i64 f,.sl 1 g,.sl 1 h,.sl 1 i,.sl 7 l,.sl 6 m,.sl 1 n,.int .i64 o,.sl 1 p,.sl 1 q,.sl 1 r,.sl 2 s,.sl 4 t,.int .i64 u] fun v=>uS v fun v w=>uI .i64 w fun w x=>uI .i64 x fun x y=>uI .i64 y fun y z=>uL 1 z fun z A=>uL 2 A fun A B=>uL 4 B fun B C=>uI .i64 C fun C D=>unNil D (X a b (IntKind.i64.wrap (c+1)) v w x g h i l m n y p z r A B C))else none)))else none)else(Ko d e f g h i l m n o p q r s t u))
def l28_0g{R:Type}(G:ORC R)(k:Nat)(Ko:Cu R J46)(j:Nat):Cu R J47:=lup J47 (fun X=>b28_0 G k X Ko) j
def l28_0{R:Type}(G:ORC R)(k:Nat)(a:LV)(b c:Int)(d:ByteArray)(e f:Int)(g h i l m n:LV)(o:Int)(p q r s t:LV)(u:Int)(Ko:Cu R J46):OV R:=l28_0g G k Ko k a b c d e f g h i l m n o p q r s t u
def L28{R:Type}(G:ORC R)(k:Nat):Nat→St→(Ex→St→OV R)→OV R
 |0,S,K=>P28_0h.mat S fun vs=>uc J47 (l28_0g G k (koX J46 P28_0x K) k) vs none
 |_,_,_=>none
def f28{R:Type}(G:ORC R)(k:Nat)(a:LV)(b:ByteArray)(c d:Int)(e f g h i l:LV)(m:Int)(n o p q r:LV)(s:Int)(K:LV→OV R):OV R:=
 (l28_0 G k a (a.length:Int) 0 b c d e f g h i l m n o p q r s (fun a b c d e f g d e f g d e h i l=>K [.str a,.int .i64 b,.int .i64 c,.int .i64 f,.sl 1 g,.sl 1 d,.sl 2 h,.sl 4 i,.int .i64 l]))
abbrev g28 {R:Type} (G:ORC R) (k:Nat):LV→(LV→OV R)→OV R:=gF J48 (f28 G k)
theorem s28{R:Type}{G:ORC R}{k:Nat}(hG:Sound Try.prog TAB G):TL 28 (g28 G k):=
 gG J48 (by kernel_rfl) (callF_sound (L:=L28 G k) (f:=28) TAB_chk MO hG Try.func28 (sg:=S28) (by kernel_rfl) (by kernel_rfl) (las [0] (by kernel_rfl) ⟨loopIs J47 k (fun K X=>b28_0 G k X (koX J46 P28_0x K)) P28_0h P28_0x default (by kernel_rfl) (by kernel_rfl) (by kernel_rfl) (fun K X=>by kernel_rfl) (fun S K=>by kernel_rfl),trivial⟩))
def P29_2h:Pat:={tmps:=unds [.var (.sl 7) .ro] 6 (unds [pS 18,pU,pS 9] 9 (unds [.var (.sl 2) .ro,pI,pI] 22 (unds [pL,pI,pI] 12 []))),boxes:=nons [] 9 (nons [some B10] 8 (nons [some B11] 40 []))}
def P29_2x:Pat:={tmps:=unds [.var (.sl 7) .ro] 6 (unds [pS 18] 11 (unds [.var (.sl 2) .ro,pI,pI] 37 [])),boxes:=nons [] 18 (nons [some B11] 40 [])}
def P29_0h:Pat:={tmps:=unds [.var (.sl 7) .ro] 6 (unds [pS 18] 11 (unds [.var (.sl 2) .ro,pI,pI] 37 [])),boxes:=nons [] 18 (nons [some B11] 40 [])}
def P29_0x:Pat:={tmps:=unds [] 7 (unds [pS 18] 51 []),boxes:=nons [] 18 (nons [some B11] 40 [])}
def b29_2{R:Type}(G:ORC R)(k:Nat)(X:Cu R J50)(Ko:Cu R J49)(a b:LV)(c d:Int)(e:LV)(f g h i:Int)(l m n:LV)(o:Int):OV R:=
 (bif(decide (g<f))then(bif((decide (0≤g))&&(decide (g<(e.length:Int))))then(nthK e (Int.toNat g) fun p=>aI .i64 p fun p=>G 56 [.int .i64 p,.int .i64 i,.sl 7 l,.sl 1 m,.sl 1 n,.int .i64 o] fun p=>uL 1 p fun p q=>uI .i64 q fun q r=>unNil r (X a b c d e f (IntKind.i64.wrap (g+1)) h i l m p q))else none)else(Ko a b c d l m n o))
def l29_2g{R:Type}(G:ORC R)(k:Nat)(Ko:Cu R J49)(j:Nat):Cu R J50:=lup J50 (fun X=>b29_2 G k X Ko) j
def l29_2{R:Type}(G:ORC R)(k:Nat)(a b:LV)(c d:Int)(e:LV)(f g h i:Int)(l m n:LV)(o:Int)(Ko:Cu R J49):OV R:=l29_2g G k Ko k a b c d e f g h i l m n o
def b29_0{R:Type}(G:ORC R)(k:Nat)(X:Cu R J49)(Ko:Cu R J35)(a b:LV)(c d:Int)(e f g:LV)(h:Int):OV R:=
 (bif(decide (d<c))then(bif((decide (0≤d))&&(decide (d<(b.length:Int))))then(nthK b (Int.toNat d) fun i=>V.asAgg i fun i=>ce2 i fun i l=>aI .i64 i fun i=>aI .i64 l fun l=>G 49 [.sl 7 a,.int .i64 i] fun m=>uB m fun m n=>unNil n (bif(!m)then(X a b c (IntKind.i64.wrap (d+1)) e f g h)else(G 49 [.sl 7 a,.int .i64 l] fun m=>uB m fun m n=>unNil n (bif(!m)then(X a b c (IntKind.i64.wrap (d+1)) e f g h)else(G 54 [.int .i64 i,.sl 7 e,.sl 1 f,.sl 1 g,.int .i64 h] fun m=>uL 1 m fun m n=>uI .i64 n fun n o=>unNil o (G 55 [.int .i64 i,.sl 7 e,.sl 1 f,.sl 1 m,.int .i64 n] fun m=>uL 1 m fun m n=>uL 1 n fun n o=>uI .i64 o fun o p=>unNil p (l29_2 G k a b c d m (m.length:Int) 0 i l e f n o (fun a b c d i l m n=>X a b c (IntKind.i64.wrap (d+1)) i l m n))))))))else none)else(Ko e f g h))
def l29_0g{R:Type}(G:ORC R)(k:Nat)(Ko:Cu R J35)(j:Nat):Cu R J49:=lup J49 (fun X=>b29_0 G k X Ko) j
def l29_0{R:Type}(G:ORC R)(k:Nat)(a b:LV)(c d:Int)(e f g:LV)(h:Int)(Ko:Cu R J35):OV R:=l29_0g G k Ko k a b c d e f g h
def L29{R:Type}(G:ORC R)(k:Nat):Nat→St→(Ex→St→OV R)→OV R
 |2,S,K=>P29_2h.mat S fun vs=>uc J50 (l29_2g G k (koX J49 P29_2x K) k) vs none
 |0,S,K=>P29_0h.mat S fun vs=>uc J49 (l29_0g G k (koX J35 P29_0x K) k) vs none
 |_,_,_=>none
def f29{R:Type}(G:ORC R)(k:Nat)(a b c:LV)(K:LV→OV R):OV R:=
 (bif(((decide (0≤(a.length:Int)))&&(decide ((a.length:Int)≤(a.length:Int))))&&(decide ((a.length:Int)≤1073741824)))then(l29_0 G k a b (b.length:Int) 0 a c (List.replicate (Int.toNat (a.length:Int)) (V.bool false)) 65536 (fun a b c d=>G 57 [.sl 7 a,.sl 1 b,.sl 1 c,.int .i64 d] fun a=>uL 1 a fun a b=>uL 1 b fun b c=>uI .i64 c fun b c=>unNil c (K [.sl 1 a])))else none)
abbrev g29 {R:Type} (G:ORC R) (k:Nat):LV→(LV→OV R)→OV R:=gF J51 (f29 G k)
theorem s29{R:Type}{G:ORC R}{k:Nat}(hG:Sound Try.prog TAB G):TL 29 (g29 G k):=
 gG J51 (by kernel_rfl) (callF_sound (L:=L29 G k) (f:=29) TAB_chk MO hG Try.func29 (sg:=S29) (by kernel_rfl) (by kernel_rfl) (las [0,2] (by kernel_rfl) ⟨loopIs J49 k (fun K X=>b29_0 G k X (koX J35 P29_0x K)) P29_0h P29_0x default (by kernel_rfl) (by kernel_rfl) (by kernel_rfl) (fun K X=>by kernel_rfl) (fun S K=>by kernel_rfl),loopIs J50 k (fun K X=>b29_2 G k X (koX J49 P29_2x K)) P29_2h P29_2x default (by kernel_rfl) (by kernel_rfl) (by kernel_rfl) (fun K X=>by kernel_rfl) (fun S K=>by kernel_rfl),trivial⟩))
def f30{R:Type}(G:ORC R)(k:Nat)(a:ByteArray)(b c:Int)(d e f g h i:LV)(K:LV→OV R):OV R:=
 (G 41 [.sl 1 d] fun l=>uL 1 l fun l m=>unNil m (bif(((decide (0≤(g.length:Int)))&&(decide ((g.length:Int)≤(g.length:Int))))&&(decide ((g.length:Int)≤1073741824)))then(G 58 [.sl 7 g] fun m=>uL 1 m fun m n=>unNil n (G 28 [.sl 1 m,.str a,.int .i64 b,.int .i64 c,.sl 1 d,.sl 1 e,.sl 1 f,.sl 7 g,.sl 6 h,.sl 1 i,.int .i64 0,.sl 1 [],.sl 1 l,.sl 1 (List.replicate (Int.toNat (g.length:Int)) (V.sl 1 [])),.sl 2 [],.sl 4 [],.int .i64 0] fun a=>uS a fun a b=>uI .i64 b fun a b=>uI .i64 b fun a b=>uI .i64 b fun a b=>uL 1 b fun a b=>uL 1 b fun b c=>uL 2 c fun c d=>uL 4 d fun d e=>uI .i64 e fun e f=>unNil f (K [.agg [.sl 1 a,.sl 1 b,.sl 1 (List.replicate (Int.toNat (g.length:Int)) (V.sl 1 [])),.sl 2 c,.sl 4 d,.int .i64 e]])))else none))
abbrev g30 {R:Type} (G:ORC R) (k:Nat):LV→(LV→OV R)→OV R:=gF J24 (f30 G k)
theorem s30{R:Type}{G:ORC R}{k:Nat}(hG:Sound Try.prog TAB G):TL 30 (g30 G k):=
 gG J24 (by kernel_rfl) (callF_sound (L:=fun _ _ _=>none) (f:=30) TAB_chk MO hG Try.func30 (sg:=S30) (by kernel_rfl) (by kernel_rfl) (las [] (by kernel_rfl) trivial))
def f31{R:Type}(G:ORC R)(k:Nat)(a:ByteArray)(b:Int)(c:ByteArray)(d e:Int)(f g h i l m n o p q:LV)(r s:Int)(t:Bool)(u:LV)(K:LV→OV R):OV R:=
 (G 6 [.agg [.str c,.int .i64 d,.int .i64 e,.sl 1 f,.sl 1 g,.sl 1 h,.sl 7 i,.sl 6 l,.sl 1 m],.agg [.sl 1 n,.sl 1 o,.sl 1 p],.agg [.str a,.int .i64 b]] fun a=>uA a fun a v=>uL 1 a fun a w=>uL 2 w fun w x=>uI .i64 x fun x y=>unNil y (unNil v (G 59 [.agg [.sl 1 a,.sl 2 w,.int .i64 x],.str c,.int .i64 d,.int .i64 e,.sl 1 f,.sl 1 g,.sl 1 h,.sl 7 i,.sl 6 l,.sl 1 m,.sl 1 n,.sl 1 o,.sl 1 p,.sl 4 q,.int .i64 r,.int .i64 s,.bool t,.sl 2 u] fun c=>uS c fun c d=>uI .i64 d fun d e=>uI .i64 e fun e n=>uL 1 n fun n o=>uL 1 o fun o p=>uL 1 p fun p q=>uL 4 q fun q r=>uI .i64 r fun r s=>uI .i64 s fun s t=>uB t fun t u=>uL 2 u fun u v=>unNil v (G 10 [.agg [.str c,.int .i64 d,.int .i64 e,.sl 1 f,.sl 1 g,.sl 1 h,.sl 7 i,.sl 6 l,.sl 1 m],.agg [.sl 1 n,.sl 1 o,.sl 1 p],.sl 1 a,.int .i64 b] fun a=>uA a fun a b=>uL 1 a fun a v=>uL 1 v fun v w=>uL 1 w fun w x=>uL 2 x fun x y=>uL 4 y fun y z=>uI .i64 z fun z A=>unNil A (unNil b (G 33 [.agg [.sl 1 a,.sl 1 v,.sl 1 w,.sl 2 x,.sl 4 y,.int .i64 z],.str c,.int .i64 d,.int .i64 e,.sl 1 f,.sl 1 g,.sl 1 h,.sl 7 i,.sl 6 l,.sl 1 m,.sl 1 n,.sl 1 o,.sl 1 p,.sl 4 q,.int .i64 r,.int .i64 s,.bool t,.sl 2 u] fun a=>uS a fun a b=>uI .i64 b fun b c=>uI .i64 c fun c d=>uL 1 d fun d e=>uL 1 e fun e f=>uL 1 f fun f g=>uL 4 g fun g h=>uI .i64 h fun h i=>uI .i64 i fun i l=>uB l fun l m=>uL 2 m fun m n=>unNil n (K [.str a,.int .i64 b,.int .i64 c,.sl 1 d,.sl 1 e,.sl 1 f,.sl 4 g,.int .i64 h,.int .i64 i,.bool l,.sl 2 m])))))))
abbrev g31 {R:Type} (G:ORC R) (k:Nat):LV→(LV→OV R)→OV R:=gF J52 (f31 G k)
theorem s31{R:Type}{G:ORC R}{k:Nat}(hG:Sound Try.prog TAB G):TL 31 (g31 G k):=
 gG J52 (by kernel_rfl) (callF_sound (L:=fun _ _ _=>none) (f:=31) TAB_chk MO hG Try.func31 (sg:=S31) (by kernel_rfl) (by kernel_rfl) (las [] (by kernel_rfl) trivial))
def P32_0h:Pat:={tmps:=unds [pS 0,pU,pS 3] 97 [],boxes:=nons [some B12,none,none,some B13] 97 []}
def P32_0r:Pat:={tmps:=unds [pU,pU,pS 3] 97 [],boxes:=nons [some B14,none,none,some B15] 97 []}
def b32_0{R:Type}(G:ORC R)(k:Nat)(X:Cu R J54)(Kr:Cu R J53)(a:ByteArray)(b c:Int)(d e f g h i l m n:LV)(o:V)(p q:Int)(r:Bool)(s t u v w:LV)(x y:Int)(z:Bool):OV R:=
 (G 60 [.agg [.str a,.int .i64 b,.int .i64 c,.sl 1 d,.sl 1 e,.sl 1 f,.sl 7 g,.sl 6 h,.sl 1 i],.agg [.sl 1 l,.sl 1 m,.sl 1 n]] fun A=>uA A fun A B=>uL 1 A fun A C=>uL 2 C fun C D=>uI .i64 D fun D E=>unNil E (unNil B (G 59 [.agg [.sl 1 A,.sl 2 C,.int .i64 D],.str a,.int .i64 b,.int .i64 c,.sl 1 d,.sl 1 e,.sl 1 f,.sl 7 g,.sl 6 h,.sl 1 i,.sl 1 l,.sl 1 m,.sl 1 n,o,.int .i64 p,.int .i64 q,.bool r,.sl 2 s] fun a=>uS a fun a b=>uI .i64 b fun b c=>uI .i64 c fun c l=>uL 1 l fun l m=>uL 1 m fun m n=>uL 1 n fun n o=>uL 4 o fun o p=>uI .i64 p fun p q=>uI .i64 q fun q r=>uB r fun r s=>uL 2 s fun s B=>unNil B (bif((A.length:Int)==0)then(bif((s.length:Int)==0)then(Kr a b c d e f g h i l m n p q r s l m n o p q r)else(bif(decide (q≥(IntKind.i64.wrap ((bif(decide (16<(bif(decide (b<0))then 0 else b)))then 16 else(bif(decide (b<0))then 0 else b))-1))))then(G 31 [.agg [.str ⟨#[101,114,114,111,114]⟩,.int .i64 5],.str a,.int .i64 b,.int .i64 c,.sl 1 d,.sl 1 e,.sl 1 f,.sl 7 g,.sl 6 h,.sl 1 i,.sl 1 l,.sl 1 m,.sl 1 n,.sl 4 o,.int .i64 p,.int .i64 q,.bool true,.sl 2 []] fun B=>uS B fun B C=>uI .i64 C fun C D=>uI .i64 D fun D E=>uL 1 E fun E F=>uL 1 F fun F H=>uL 1 H fun H I=>uL 4 I fun I J=>uI .i64 J fun J L=>uI .i64 L fun L M=>uB M fun M N=>uL 2 N fun N O=>unNil O (Kr B C D d e f g h i E F H J L M N E F H I J L M))else(bif(decide ((A.length:Int)>0))then(G 10 [.agg [.str a,.int .i64 b,.int .i64 c,.sl 1 d,.sl 1 e,.sl 1 f,.sl 7 g,.sl 6 h,.sl 1 i],.agg [.sl 1 l,.sl 1 m,.sl 1 n],.sl 1 A,.int .i64 0] fun B=>uA B fun B C=>uL 1 B fun B D=>uL 1 D fun D E=>uL 1 E fun E F=>uL 2 F fun F H=>uL 4 H fun H I=>uI .i64 I fun I J=>unNil J (unNil C (G 33 [.agg [.sl 1 B,.sl 1 D,.sl 1 E,.sl 2 F,.sl 4 H,.int .i64 I],.str a,.int .i64 b,.int .i64 c,.sl 1 d,.sl 1 e,.sl 1 f,.sl 7 g,.sl 6 h,.sl 1 i,.sl 1 l,.sl 1 m,.sl 1 n,.sl 4 o,.int .i64 p,.int .i64 q,.bool r,.sl 2 s] fun B=>uS B fun B C=>uI .i64 C fun C D=>uI .i64 D fun D E=>uL 1 E fun E F=>uL 1 F fun F H=>uL 1 H fun H I=>uL 4 I fun I J=>uI .i64 J fun J L=>uI .i64 L fun L M=>uB M fun M N=>uL 2 N fun N O=>unNil O (X B C D d e f g h i E F H (.sl 4 I) J L M N t u v w x y z))))else(bif(decide (0<(s.length:Int)))then(nthK s 0 fun B=>V.asAgg B fun B=>ce2 B fun B C=>V.asStr B fun B=>aI .i64 C fun C=>bif((decide (1≤(s.length:Int)))&&(decide ((s.length:Int)≤(s.length:Int))))then(G 31 [.agg [.str B,.int .i64 C],.str a,.int .i64 b,.int .i64 c,.sl 1 d,.sl 1 e,.sl 1 f,.sl 7 g,.sl 6 h,.sl 1 i,.sl 1 l,.sl 1 m,.sl 1 n,.sl 4 o,.int .i64 p,.int .i64 q,.bool r,.sl 2 (List.drop 1 (List.take (Int.toNat (s.length:Int)) s))] fun B=>uS B fun B C=>uI .i64 C fun C D=>uI .i64 D fun D E=>uL 1 E fun E F=>uL 1 F fun F H=>uL 1 H fun H I=>uL 4 I fun I J=>uI .i64 J fun J L=>uI .i64 L fun L M=>uB M fun M N=>uL 2 N fun N O=>unNil O (X B C D d e f g h i E F H (.sl 4 I) J L M N t u v w x y z))else none)else none))))else(bif(decide (q≥(IntKind.i64.wrap ((bif(decide (16<(bif(decide (b<0))then 0 else b)))then 16 else(bif(decide (b<0))then 0 else b))-1))))then(G 31 [.agg [.str ⟨#[101,114,114,111,114]⟩,.int .i64 5],.str a,.int .i64 b,.int .i64 c,.sl 1 d,.sl 1 e,.sl 1 f,.sl 7 g,.sl 6 h,.sl 1 i,.sl 1 l,.sl 1 m,.sl 1 n,.sl 4 o,.int .i64 p,.int .i64 q,.bool true,.sl 2 []] fun B=>uS B fun B C=>uI .i64 C fun C D=>uI .i64 D fun D E=>uL 1 E fun E F=>uL 1 F fun F H=>uL 1 H fun H I=>uL 4 I fun I J=>uI .i64 J fun J L=>uI .i64 L fun L M=>uB M fun M N=>uL 2 N fun N O=>unNil O (Kr B C D d e f g h i E F H J L M N E F H I J L M))else(bif(decide ((A.length:Int)>0))then(G 10 [.agg [.str a,.int .i64 b,.int .i64 c,.sl 1 d,.sl 1 e,.sl 1 f,.sl 7 g,.sl 6 h,.sl 1 i],.agg [.sl 1 l,.sl 1 m,.sl 1 n],.sl 1 A,.int .i64 0] fun A=>uA A fun A B=>uL 1 A fun A C=>uL 1 C fun C D=>uL 1 D fun D E=>uL 2 E fun E F=>uL 4 F fun F H=>uI .i64 H fun H I=>unNil I (unNil B (G 33 [.agg [.sl 1 A,.sl 1 C,.sl 1 D,.sl 2 E,.sl 4 F,.int .i64 H],.str a,.int .i64 b,.int .i64 c,.sl 1 d,.sl 1 e,.sl 1 f,.sl 7 g,.sl 6 h,.sl 1 i,.sl 1 l,.sl 1 m,.sl 1 n,.sl 4 o,.int .i64 p,.int .i64 q,.bool r,.sl 2 s] fun A=>uS A fun A B=>uI .i64 B fun B C=>uI .i64 C fun C D=>uL 1 D fun D E=>uL 1 E fun E F=>uL 1 F fun F H=>uL 4 H fun H I=>uI .i64 I fun I J=>uI .i64 J fun J L=>uB L fun L M=>uL 2 M fun M N=>unNil N (X A B C d e f g h i D E F (.sl 4 H) I J L M t u v w x y z))))else(bif(decide (0<(s.length:Int)))then(nthK s 0 fun A=>V.asAgg A fun A=>ce2 A fun A B=>V.asStr A fun A=>aI .i64 B fun B=>bif((decide (1≤(s.length:Int)))&&(decide ((s.length:Int)≤(s.length:Int))))then(G 31 [.agg [.str A,.int .i64 B],.str a,.int .i64 b,.int .i64 c,.sl 1 d,.sl 1 e,.sl 1 f,.sl 7 g,.sl 6 h,.sl 1 i,.sl 1 l,.sl 1 m,.sl 1 n,.sl 4 o,.int .i64 p,.int .i64 q,.bool r,.sl 2 (List.drop 1 (List.take (Int.toNat (s.length:Int)) s))] fun a=>uS a fun a b=>uI .i64 b fun b c=>uI .i64 c fun c l=>uL 1 l fun l m=>uL 1 m fun m n=>uL 1 n fun n o=>uL 4 o fun o p=>uI .i64 p fun p q=>uI .i64 q fun q r=>uB r fun r s=>uL 2 s fun s A=>unNil A (X a b c d e f g h i l m n (.sl 4 o) p q r s t u v w x y z))else none)else none)))))))
def l32_0g{R:Type}(G:ORC R)(k:Nat)(Kr:Cu R J53)(j:Nat):Cu R J54:=lup J54 (fun X=>b32_0 G k X Kr) j
def l32_0{R:Type}(G:ORC R)(k:Nat)(a:ByteArray)(b c:Int)(d e f g h i l m n:LV)(o:V)(p q:Int)(r:Bool)(s t u v w:LV)(x y:Int)(z:Bool)(Kr:Cu R J53):OV R:=l32_0g G k Kr k a b c d e f g h i l m n o p q r s t u v w x y z
def L32{R:Type}(G:ORC R)(k:Nat):Nat→St→(Ex→St→OV R)→OV R
 |0,S,K=>P32_0h.mat S fun vs=>uc J54 (l32_0g G k (koR J53 P32_0r K) k) vs none
 |_,_,_=>none
def f32{R:Type}(G:ORC R)(k:Nat)(a:ByteArray)(b c:Int)(d e f g h i l m n:LV)(o:V)(p q:Int)(r:Bool)(s:LV)(K:LV→OV R):OV R:=
 (l32_0 G k a b c d e f g h i l m n o p q r s [] [] [] [] 0 0 false (fun a b c d e f g d e f g d e h i l m n o p q r s=>K [.agg [.sl 1 m,.sl 1 n,.sl 1 o,.sl 4 p,.int .i64 q,.int .i64 r,.bool s],.str a,.int .i64 b,.int .i64 c,.sl 1 f,.sl 1 g,.sl 1 d,.undef,.int .i64 e,.int .i64 h,.bool i,.sl 2 l]))
abbrev g32 {R:Type} (G:ORC R) (k:Nat):LV→(LV→OV R)→OV R:=gF J55 (f32 G k)
theorem s32{R:Type}{G:ORC R}{k:Nat}(hG:Sound Try.prog TAB G):TL 32 (g32 G k):=
 gG J55 (by kernel_rfl) (callF_sound (L:=L32 G k) (f:=32) TAB_chk MO hG Try.func32 (sg:=S32) (by kernel_rfl) (by kernel_rfl) (las [0] (by kernel_rfl) ⟨loopIs J54 k (fun K X=>b32_0 G k X (koR J53 P32_0r K)) P32_0h default P32_0r (by kernel_rfl) (by kernel_rfl) (by kernel_rfl) (fun K X=>by kernel_rfl) (fun S K=>by kernel_rfl),trivial⟩))
def f33{R:Type}(G:ORC R)(k:Nat)(a b c d e:LV)(f:Int)(g:ByteArray)(h i:Int)(l m n o l m n o l m:LV)(l n:Int)(o:Bool)(p:LV)(K:LV→OV R):OV R:=
 (bif(decide (List.length m+List.length e≤1073741824))then(bif(decide (List.length p+List.length d≤1073741824))then(K [.str g,.int .i64 h,.int .i64 i,.sl 1 a,.sl 1 b,.sl 1 c,.sl 4 (m++e),.int .i64 (IntKind.i64.wrap (l+(IntKind.i64.wrap (f+1)))),.int .i64 (IntKind.i64.wrap (n+1)),.bool o,.sl 2 (p++d)])else none)else none)
abbrev g33 {R:Type} (G:ORC R) (k:Nat):LV→(LV→OV R)→OV R:=gF J56 (f33 G k)
theorem s33{R:Type}{G:ORC R}{k:Nat}(hG:Sound Try.prog TAB G):TL 33 (g33 G k):=
 gG J56 (by kernel_rfl) (callF_sound (L:=fun _ _ _=>none) (f:=33) TAB_chk MO hG Try.func33 (sg:=S33) (by kernel_rfl) (by kernel_rfl) (las [] (by kernel_rfl) trivial))
def P34_0h:Pat:={tmps:=unds [.var (.sl 7) .ro,pU,pU,pU,pU,.var (.sl 1) (.own true),pU,pU,pL,pI,pI] 20 [],boxes:=nons [] 31 []}
def P34_0x:Pat:={tmps:=unds [] 5 (unds [.var (.sl 1) (.own true)] 25 []),boxes:=nons [] 31 []}
def b34_0{R:Type}(G:ORC R)(k:Nat)(X:Cu R J57)(Ko:Cu R J34)(a b c:LV)(d e:Int):OV R:=
 (bif(decide (e<d))then(bif((decide (0≤e))&&(decide (e<(c.length:Int))))then(nthK c (Int.toNat e) fun f=>aI .i64 f fun f=>G 61 [.sl 7 a,.int .i64 f] fun g=>uB g fun g h=>unNil h (bif g then(bif((decide (0≤f))&&(decide (f<(a.length:Int))))then(nthK a (Int.toNat f) fun g=>ca7 g fun g h i l m h i=>aI .i64 g fun g=>bif(g==1)then(bif(decide (List.length b+1≤1073741824))then(X a (b++[.int .i64 f]) c d (IntKind.i64.wrap (e+1)))else none)else(X a b c d (IntKind.i64.wrap (e+1))))else none)else(X a b c d (IntKind.i64.wrap (e+1)))))else none)else(Ko b))
def l34_0g{R:Type}(G:ORC R)(k:Nat)(Ko:Cu R J34)(j:Nat):Cu R J57:=lup J57 (fun X=>b34_0 G k X Ko) j
def l34_0{R:Type}(G:ORC R)(k:Nat)(a b c:LV)(d e:Int)(Ko:Cu R J34):OV R:=l34_0g G k Ko k a b c d e
def L34{R:Type}(G:ORC R)(k:Nat):Nat→St→(Ex→St→OV R)→OV R
 |0,S,K=>P34_0h.mat S fun vs=>uc J57 (l34_0g G k (koX J34 P34_0x K) k) vs none
 |_,_,_=>none
def f34{R:Type}(G:ORC R)(k:Nat)(a b:LV)(K:LV→OV R):OV R:=
 (l34_0 G k a [] b (b.length:Int) 0 (fun a=>K [.sl 1 a]))
abbrev g34 {R:Type} (G:ORC R) (k:Nat):LV→(LV→OV R)→OV R:=gF J13 (f34 G k)
theorem s34{R:Type}{G:ORC R}{k:Nat}(hG:Sound Try.prog TAB G):TL 34 (g34 G k):=
 gG J13 (by kernel_rfl) (callF_sound (L:=L34 G k) (f:=34) TAB_chk MO hG Try.func34 (sg:=S34) (by kernel_rfl) (by kernel_rfl) (las [0] (by kernel_rfl) ⟨loopIs J57 k (fun K X=>b34_0 G k X (koX J34 P34_0x K)) P34_0h P34_0x default (by kernel_rfl) (by kernel_rfl) (by kernel_rfl) (fun K X=>by kernel_rfl) (fun S K=>by kernel_rfl),trivial⟩))
def P35_2h:Pat:={tmps:=unds [pS 0,pI,.var .str .pr,pU,pU,pU,pU,pI] 30 (unds [.var (.sl 6) .ro,pI,pI] 30 []),boxes:=nons [some B16] 71 []}
def P35_2x:Pat:={tmps:=unds [pS 0,pI,.var .str .pr,pU,pU,pU,pU,pI] 63 [],boxes:=nons [some B16] 71 []}
def P35_2r:Pat:={tmps:=unds [] 6 (unds [pI] 64 []),boxes:=nons [some B16] 71 []}
def P35_0h:Pat:={tmps:=unds [pS 0,pI,.var .str .pr,pU,pU,pU,pU,pI] 63 [],boxes:=nons [some B16] 71 []}
def P35_0x:Pat:={tmps:=unds [] 71 [],boxes:=nons [some B16] 71 []}
def P35_0r:Pat:={tmps:=unds [] 6 (unds [pI] 64 []),boxes:=nons [some B16] 71 []}
def b35_2{R:Type}(G:ORC R)(k:Nat)(X:Cu R J60)(Ko:Cu R J58)(Kr:Cu R J59)(a:Int)(b:ByteArray)(c:Int)(d:LV)(e f:Int)(g:ByteArray)(h i:Int)(l m n o p q r s t:LV)(u:Int)(v:V)(w x:LV)(y:Int):OV R:=
 (bif(decide (f<e))then(bif((decide (0≤f))&&(decide (f<(d.length:Int))))then(nthK d (Int.toNat f) fun z=>V.asAgg z fun z=>ce6 z fun z A B C D E=>aI .i64 z fun z=>aI .i64 A fun A=>aI .i64 B fun A=>aI .i64 C fun A=>aI .i64 D fun A=>V.asStr E fun A=>bif(z==a)then(bif(ByteArray.toList A==ByteArray.toList b)then(G 62 [.int .i64 f,.str g,.int .i64 h,.int .i64 i,.sl 1 l,.sl 1 m,.sl 1 n,.sl 7 o,.sl 6 p,.sl 1 q,.sl 1 r,.sl 1 s,.sl 1 t,.int .i64 u,v,.sl 1 w,.sl 2 x,.int .i64 y] fun z=>uB z fun z A=>uS A fun A B=>uI .i64 B fun B C=>uI .i64 C fun C D=>uI .i64 D fun D E=>unCons E fun E F=>uL 1 F fun F H=>uL 2 H fun H I=>uI .i64 I fun I J=>unNil J (bif z then(Kr f A B C l m n o p q r s t D E F H I)else(X a b c d e (IntKind.i64.wrap (f+1)) A B C l m n o p q r s t D E F H I)))else(X a b c d e (IntKind.i64.wrap (f+1)) g h i l m n o p q r s t u v w x y))else(X a b c d e (IntKind.i64.wrap (f+1)) g h i l m n o p q r s t u v w x y))else none)else(Ko a b c g h i l m n o p q r s t u v w x y))
def l35_2g{R:Type}(G:ORC R)(k:Nat)(Ko:Cu R J58)(Kr:Cu R J59)(j:Nat):Cu R J60:=lup J60 (fun X=>b35_2 G k X Ko Kr) j
def l35_2{R:Type}(G:ORC R)(k:Nat)(a:Int)(b:ByteArray)(c:Int)(d:LV)(e f:Int)(g:ByteArray)(h i:Int)(l m n o p q r s t:LV)(u:Int)(v:V)(w x:LV)(y:Int)(Ko:Cu R J58)(Kr:Cu R J59):OV R:=l35_2g G k Ko Kr k a b c d e f g h i l m n o p q r s t u v w x y
def b35_0{R:Type}(G:ORC R)(k:Nat)(X:Cu R J58)(Ko:Cu R J61)(Kr:Cu R J59)(a:Int)(b:ByteArray)(c:Int)(d:ByteArray)(e f:Int)(g h i l m n o p q:LV)(r:Int)(s:V)(t u:LV)(v:Int):OV R:=
 (bif(decide (a≥0))then(bif(decide (a<(l.length:Int)))then(bif(decide (c≤(l.length:Int)))then(l35_2 G k a b c m (m.length:Int) 0 d e f g h i l m n o p q r s t u v (fun a b c w x y z A B C D E F H I J L M N O=>bif((decide (0≤a))&&(decide (a<(C.length:Int))))then(nthK C (Int.toNat a) fun a=>ca7 a fun a P Q S a T Q=>aI .i64 P fun a=>X a b (IntKind.i64.wrap (c+1)) w x y z A B C D E F H I J L M N O)else none) (fun a b c w x y z A B C D E F H I J L M=>Kr a b c w x y z A B C D E F H I J L M))else(Ko d e f g h i l m n o p q r s t u v))else(Ko d e f g h i l m n o p q r s t u v))else(Ko d e f g h i l m n o p q r s t u v))
def l35_0g{R:Type}(G:ORC R)(k:Nat)(Ko:Cu R J61)(Kr:Cu R J59)(j:Nat):Cu R J58:=lup J58 (fun X=>b35_0 G k X Ko Kr) j
def l35_0{R:Type}(G:ORC R)(k:Nat)(a:Int)(b:ByteArray)(c:Int)(d:ByteArray)(e f:Int)(g h i l m n o p q:LV)(r:Int)(s:V)(t u:LV)(v:Int)(Ko:Cu R J61)(Kr:Cu R J59):OV R:=l35_0g G k Ko Kr k a b c d e f g h i l m n o p q r s t u v
def L35{R:Type}(G:ORC R)(k:Nat):Nat→St→(Ex→St→OV R)→OV R
 |2,S,K=>P35_2h.mat S fun vs=>uc J60 (l35_2g G k (koX J58 P35_2x K) (koR J59 P35_2r K) k) vs none
 |0,S,K=>P35_0h.mat S fun vs=>uc J58 (l35_0g G k (koX J61 P35_0x K) (koR J59 P35_0r K) k) vs none
 |_,_,_=>none
def f35{R:Type}(G:ORC R)(k:Nat)(a:Int)(b c:ByteArray)(d e:Int)(f g h i l m n o p:LV)(q:Int)(r:V)(s t:LV)(u:Int)(K:LV→OV R):OV R:=
 (l35_0 G k a b 0 c d e f g h i l m n o p q r s t u (fun a b c d e f g d e f g d e f g d h=>K [.int .i64 (-1),.str a,.int .i64 b,.int .i64 c,.int .i64 e,f,.sl 1 g,.sl 2 d,.int .i64 h]) (fun a b c d e f g h e f g h e f g h e i=>K [.int .i64 a,.str b,.int .i64 c,.int .i64 d,.int .i64 f,g,.sl 1 h,.sl 2 e,.int .i64 i]))
abbrev g35 {R:Type} (G:ORC R) (k:Nat):LV→(LV→OV R)→OV R:=gF J62 (f35 G k)
theorem s35{R:Type}{G:ORC R}{k:Nat}(hG:Sound Try.prog TAB G):TL 35 (g35 G k):=
 gG J62 (by kernel_rfl) (callF_sound (L:=L35 G k) (f:=35) TAB_chk MO hG Try.func35 (sg:=S35) (by kernel_rfl) (by kernel_rfl) (las [0,2] (by kernel_rfl) ⟨loopIs J58 k (fun K X=>b35_0 G k X (koX J61 P35_0x K) (koR J59 P35_0r K)) P35_0h P35_0x P35_0r (by kernel_rfl) (by kernel_rfl) (by kernel_rfl) (fun K X=>by kernel_rfl) (fun S K=>by kernel_rfl),loopIs J60 k (fun K X=>b35_2 G k X (koX J58 P35_2x K) (koR J59 P35_2r K)) P35_2h P35_2x P35_2r (by kernel_rfl) (by kernel_rfl) (by kernel_rfl) (fun K X=>by kernel_rfl) (fun S K=>by kernel_rfl),trivial⟩))
def f36{R:Type}(G:ORC R)(k:Nat)(a:LV)(b:Int)(K:LV→OV R):OV R:=
 (G 63 [.sl 1 a,.int .i64 b] fun a=>uI .i64 a fun a b=>unNil b (K [.bool (decide (a≥0))]))
abbrev g36 {R:Type} (G:ORC R) (k:Nat):LV→(LV→OV R)→OV R:=gF J31 (f36 G k)
theorem s36{R:Type}{G:ORC R}{k:Nat}(hG:Sound Try.prog TAB G):TL 36 (g36 G k):=
 gG J31 (by kernel_rfl) (callF_sound (L:=fun _ _ _=>none) (f:=36) TAB_chk MO hG Try.func36 (sg:=S36) (by kernel_rfl) (by kernel_rfl) (las [] (by kernel_rfl) trivial))
def P37_0h:Pat:={tmps:=unds [pU,pI,pS 3,pU,pS 5,.stat (.one (.fn 64 [.ptr 3 0,.ptr 5 0]) .pt)] 16 (unds [.stat (.ref (.b 0 14) 0),pI,pI] 48 []),boxes:=nons [some B16,none,none,some B17,none,some B18] 68 []}
def P37_0x:Pat:={tmps:=unds [pU,pI,pS 3,pU,pU,.stat (.one (.fn 64 [.ptr 3 0,.ptr 5 0]) .pt)] 67 [],boxes:=nons [some B16,none,none,some B17,none,some B18] 68 []}
def P37_0r:Pat:={tmps:=unds [] 73 [],boxes:=nons [some B16] 73 []}
def b37_0{R:Type}(G:ORC R)(k:Nat)(X:Cu R J64)(Ko:Cu R J63)(Kr:Cu R J61)(a b c:Int)(d:ByteArray)(e f:Int)(g h i l m n o p q:LV)(r:Int)(s:V)(t u:LV)(v w x y z A:Int)(B:ByteArray):OV R:=
 (bif(decide (c<b))then(bif((decide (0≤c))&&(decide (c<(t.length:Int))))then(nthK t (Int.toNat c) fun C=>aI .i64 C fun C=>bif((decide (0≤C))&&(decide (C<(m.length:Int))))then(nthK m (Int.toNat C) fun D=>ca6 D fun D E F H I E=>aI .i64 D fun D=>G 64 [.int .i64 C,.str d,.int .i64 e,.int .i64 f,.sl 1 g,.sl 1 h,.sl 1 i,.sl 7 l,.sl 6 m,.sl 1 n,.sl 1 o,.sl 1 p,.sl 1 q,.int .i64 r,s,.sl 1 t,.sl 2 u,.int .i64 v,.int .i64 w,.int .i64 x,.int .i64 y,.int .i64 z,.int .i64 A,.str B] fun C=>uB C fun C E=>uS E fun E F=>uI .i64 F fun F H=>uI .i64 H fun H I=>uI .i64 I fun I J=>uI .i64 J fun J L=>uI .i64 L fun L M=>uI .i64 M fun M N=>uI .i64 N fun N O=>uI .i64 O fun O P=>uI .i64 P fun P Q=>uS Q fun Q S=>unNil S (bif C then(bif(D==L)then(Kr E F H g h i l m n o p q I s t u J)else(G 66 [.sl 7 l,.int .i64 L,.int .i64 D] fun C=>uB C fun C D=>unNil D (bif(!C)then(Kr E F H g h i l m n o p q I s t u J)else(X a b (IntKind.i64.wrap (c+1)) E F H g h i l m n o p q I s t u J L M N O P Q))))else(X a b (IntKind.i64.wrap (c+1)) E F H g h i l m n o p q I s t u J L M N O P Q)))else none)else none)else(Ko a d e f g h i l m n o p q r s t u v w x y z A B))
def l37_0g{R:Type}(G:ORC R)(k:Nat)(Ko:Cu R J63)(Kr:Cu R J61)(j:Nat):Cu R J64:=lup J64 (fun X=>b37_0 G k X Ko Kr) j
def l37_0{R:Type}(G:ORC R)(k:Nat)(a b c:Int)(d:ByteArray)(e f:Int)(g h i l m n o p q:LV)(r:Int)(s:V)(t u:LV)(v w x y z A:Int)(B:ByteArray)(Ko:Cu R J63)(Kr:Cu R J61):OV R:=l37_0g G k Ko Kr k a b c d e f g h i l m n o p q r s t u v w x y z A B
def L37{R:Type}(G:ORC R)(k:Nat):Nat→St→(Ex→St→OV R)→OV R
 |0,S,K=>P37_0h.mat S fun vs=>uc J64 (l37_0g G k (koX J63 P37_0x K) (koR J61 P37_0r K) k) vs none
 |_,_,_=>none
def f37{R:Type}(G:ORC R)(k:Nat)(a:Int)(b:ByteArray)(c d:Int)(e f g h i l m n o:LV)(p:Int)(q:V)(r s:LV)(t:Int)(K:LV→OV R):OV R:=
 (bif((decide (0≤a))&&(decide (a<(i.length:Int))))then(nthK i (Int.toNat a) fun u=>V.asAgg u fun u=>ce6 u fun u v w x y z=>aI .i64 u fun u=>aI .i64 v fun v=>aI .i64 w fun w=>aI .i64 x fun x=>aI .i64 y fun y=>V.asStr z fun z=>l37_0 G k a (r.length:Int) 0 b c d e f g h i l m n o p q r s t u v w x y z (fun a b c d e f g h i l m n o p q r s t u v w x y z=>G 131098 [.sl 1 r,.str b,.int .i64 c,.int .i64 d,.sl 1 e,.sl 1 f,.sl 1 g,.sl 7 h,.sl 6 i,.sl 1 l,.sl 1 m,.sl 1 n,.sl 1 o,.int .i64 p,q,.undef,.sl 2 s,.int .i64 t,.int .i64 u,.int .i64 v,.int .i64 w,.int .i64 x,.int .i64 y,.str z] fun b=>uL 1 b fun b c=>uS c fun c d=>uI .i64 d fun d e=>uI .i64 e fun e f=>uI .i64 f fun f g=>uI .i64 g fun g h=>uI .i64 h fun h i=>uI .i64 i fun h i=>uI .i64 i fun h i=>uI .i64 i fun h i=>uI .i64 i fun h i=>uS i fun h i=>unNil i (bif(decide (List.length b+1≤1073741824))then(K [.str c,.int .i64 d,.int .i64 e,.int .i64 f,q,.sl 1 (b++[.int .i64 a]),.sl 2 s,.int .i64 g])else none)) (fun a b c d e f g d e f g d e f g d h=>K [.str a,.int .i64 b,.int .i64 c,.int .i64 e,f,.sl 1 g,.sl 2 d,.int .i64 h]))else none)
abbrev g37 {R:Type} (G:ORC R) (k:Nat):LV→(LV→OV R)→OV R:=gF J59 (f37 G k)
theorem s37{R:Type}{G:ORC R}{k:Nat}(hG:Sound Try.prog TAB G):TL 37 (g37 G k):=
 gG J59 (by kernel_rfl) (callF_sound (L:=L37 G k) (f:=37) TAB_chk MO hG Try.func37 (sg:=S37) (by kernel_rfl) (by kernel_rfl) (las [0] (by kernel_rfl) ⟨loopIs J64 k (fun K X=>b37_0 G k X (koX J63 P37_0x K) (koR J61 P37_0r K)) P37_0h P37_0x P37_0r (by kernel_rfl) (by kernel_rfl) (by kernel_rfl) (fun K X=>by kernel_rfl) (fun S K=>by kernel_rfl),trivial⟩))
def g40{R:Type}(G:ORC R)(k:Nat)(args:LV)(K:LV→OV R):OV R:=match args with
 | [.sl 1 l]=>bif decide (l.length≤1000000)then(bif flats l then K [.sl 1 l]else none)else none
 |_=>none
theorem cloneI{l:LV}(h:l.length≤1000000)(hp:flats l=true):∃q,callN (TAB.env 40) Try.f40 S40 [.sl 1 l]=some ([.sl 1 l],q)∧∀o1,q=some o1→o1=[.sl 1 l]:=by
 cases l with
 |nil=>exact⟨some [.sl 1 []],by kernel_rfl,fun o1 h=>by cases h;rfl⟩
 |cons v r=>
  refine⟨none,?_,fun o1 h=>by cases h⟩
  have e:callN (TAB.env 40) Try.f40 S40 [.sl 1 (v::r)]=(bif decide (([]:LV).length+(v::r).length≤1073741824)then(bif flats (v::r)then some [V.sl 1 ([]++(v::r))]else none)else none).bind fun o0=>some (o0,none):=by kernel_rfl
  rw[e,decide_eq_true (by simp at h ⊢;omega),hp]
  rfl
theorem s40{R:Type}{G:ORC R}{k:Nat}(hG:Sound Try.prog TAB G)(args:LV)(K:LV→OV R)(r:R)(h:g40 G k args K=some r):∃o,CallOK Try.prog TAB.env 40 args o∧K o=some r:=by
 unfold g40 at h
 split at h
 ·rename_i l
  by_cases hl:l.length≤1000000
  ·rw[decide_eq_true hl]at h
   cases hp:flats l with
   |false=>rw[hp]at h;cases h
   |true=>
   rw[hp]at h
   obtain⟨q,e,hq⟩:=cloneI hl hp
   exact⟨_,callN_sound (f:=40) TAB_chk MO Try.func40 (sg:=S40) (by kernel_rfl) (by kernel_rfl) (fun{R}=>loopsAre_of (by rw[show loopsOf (bodyOf Try.f40)=[]from by kernel_rfl];intro p hp;cases hp)) e hq,h⟩
  ·rw[decide_eq_false hl]at h;cases h
 ·cases h
def g41{R:Type}(G:ORC R)(k:Nat)(args:LV)(K:LV→OV R):OV R:=match args with
 | [.sl 1 l]=>bif decide (l.length≤1000000)then(bif flats l then K [.sl 1 l]else none)else none
 |_=>none
theorem cloneG{l:LV}(h:l.length≤1000000)(hp:flats l=true):∃q,callN (TAB.env 41) Try.f41 S41 [.sl 1 l]=some ([.sl 1 l],q)∧∀o1,q=some o1→o1=[.sl 1 l]:=by
 cases l with
 |nil=>exact⟨some [.sl 1 []],by kernel_rfl,fun o1 h=>by cases h;rfl⟩
 |cons v r=>
  refine⟨none,?_,fun o1 h=>by cases h⟩
  have e:callN (TAB.env 41) Try.f41 S41 [.sl 1 (v::r)]=(bif decide (([]:LV).length+(v::r).length≤1073741824)then(bif flats (v::r)then some [V.sl 1 ([]++(v::r))]else none)else none).bind fun o0=>some (o0,none):=by kernel_rfl
  rw[e,decide_eq_true (by simp at h ⊢;omega),hp]
  rfl
theorem s41{R:Type}{G:ORC R}{k:Nat}(hG:Sound Try.prog TAB G)(args:LV)(K:LV→OV R)(r:R)(h:g41 G k args K=some r):∃o,CallOK Try.prog TAB.env 41 args o∧K o=some r:=by
 unfold g41 at h
 split at h
 ·rename_i l
  by_cases hl:l.length≤1000000
  ·rw[decide_eq_true hl]at h
   cases hp:flats l with
   |false=>rw[hp]at h;cases h
   |true=>
   rw[hp]at h
   obtain⟨q,e,hq⟩:=cloneG hl hp
   exact⟨_,callN_sound (f:=41) TAB_chk MO Try.func41 (sg:=S41) (by kernel_rfl) (by kernel_rfl) (fun{R}=>loopsAre_of (by rw[show loopsOf (bodyOf Try.f41)=[]from by kernel_rfl];intro p hp;cases hp)) e hq,h⟩
  ·rw[decide_eq_false hl]at h;cases h
 ·cases h
def f43{R:Type}(G:ORC R)(k:Nat)(a:Int)(b:LV)(c:Int)(K:LV→OV R):OV R:=
 (G 44 [.sl 7 b,.int .i64 c,.int .i64 a] fun a=>uB a fun a b=>unNil b (K [.bool a,.int .i64 c]))
abbrev g43 {R:Type} (G:ORC R) (k:Nat):LV→(LV→OV R)→OV R:=gF J67 (f43 G k)
theorem s43{R:Type}{G:ORC R}{k:Nat}(hG:Sound Try.prog TAB G):TL 43 (g43 G k):=
 gG J67 (by kernel_rfl) (callF_sound (L:=fun _ _ _=>none) (f:=43) TAB_chk MO hG Try.func43 (sg:=S43) (by kernel_rfl) (by kernel_rfl) (las [] (by kernel_rfl) trivial))
def f44{R:Type}(G:ORC R)(k:Nat)(a:LV)(b c:Int)(K:LV→OV R):OV R:=
 (bif(b !=c)then(G 66 [.sl 7 a,.int .i64 b,.int .i64 c] fun a=>uB a fun a b=>unNil b (K [.bool a]))else(K [.bool false]))
abbrev g44 {R:Type} (G:ORC R) (k:Nat):LV→(LV→OV R)→OV R:=gF J68 (f44 G k)
theorem s44{R:Type}{G:ORC R}{k:Nat}(hG:Sound Try.prog TAB G):TL 44 (g44 G k):=
 gG J68 (by kernel_rfl) (callF_sound (L:=fun _ _ _=>none) (f:=44) TAB_chk MO hG Try.func44 (sg:=S44) (by kernel_rfl) (by kernel_rfl) (las [] (by kernel_rfl) trivial))
def f45{R:Type}(G:ORC R)(k:Nat)(a:LV)(K:LV→OV R):OV R:=
 (G 68 [.int .u64 (IntKind.u64.wrap (a.length:Int))] fun b=>uI .i64 b fun b c=>unNil c (G 67 [.sl 1 a,.int .i64 0,.int .i64 (a.length:Int),.int .i64 b] fun a=>unNil a (K [])))
abbrev g45 {R:Type} (G:ORC R) (k:Nat):LV→(LV→OV R)→OV R:=gF J34 (f45 G k)
theorem s45{R:Type}{G:ORC R}{k:Nat}(hG:Sound Try.prog TAB G):TL 45 (g45 G k):=
 gG J34 (by kernel_rfl) (callF_sound (L:=fun _ _ _=>none) (f:=45) TAB_chk MO hG Try.func45 (sg:=S45) (by kernel_rfl) (by kernel_rfl) (las [] (by kernel_rfl) trivial))
def P46_2h:Pat:={tmps:=unds [pL,pU,pU,pI,pL,pI] 55 [],boxes:=nons [] 61 []}
def P46_2x:Pat:={tmps:=unds [pL,pU,pU,pI] 57 [],boxes:=nons [] 61 []}
def P46_0h:Pat:={tmps:=unds [.var (.sl 1) (.own true),pU,pU,pI] 57 [],boxes:=nons [] 61 []}
def P46_0x:Pat:={tmps:=unds [.var (.sl 1) (.own true)] 60 [],boxes:=nons [] 61 []}
def b46_2{R:Type}(G:ORC R)(k:Nat)(X:Cu R J69)(Ko:Cu R J31)(a:LV)(b:Int)(c:LV)(d:Int):OV R:=
 (bif(decide (d<(c.length:Int)))then(bif((decide (0≤d))&&(decide (d<(c.length:Int))))then(nthK c (Int.toNat d) fun e=>aI .i64 e fun e=>bif((decide (0≤(IntKind.i64.wrap (d-1))))&&(decide ((IntKind.i64.wrap (d-1))<(c.length:Int))))then(nthK c (Int.toNat (IntKind.i64.wrap (d-1))) fun f=>aI .i64 f fun f=>bif(e !=f)then(bif((decide (0≤d))&&(decide (d<(c.length:Int))))then(nthK c (Int.toNat d) fun e=>aI .i64 e fun e=>bif((decide (0≤b))&&(decide (b<(a.length:Int))))then(nthK a (Int.toNat b) fun e=>none)else none)else none)else(X a b c (IntKind.i64.wrap (d+1))))else none)else none)else(Ko a b))
def l46_2g{R:Type}(G:ORC R)(k:Nat)(Ko:Cu R J31)(j:Nat):Cu R J69:=lup J69 (fun X=>b46_2 G k X Ko) j
def l46_2{R:Type}(G:ORC R)(k:Nat)(a:LV)(b:Int)(c:LV)(d:Int)(Ko:Cu R J31):OV R:=l46_2g G k Ko k a b c d
def b46_0{R:Type}(G:ORC R)(k:Nat)(X:Cu R J31)(Ko:Cu R J34)(a:LV)(b:Int):OV R:=
 (bif(decide (b<(a.length:Int)))then(bif((decide (0≤b))&&(decide (b<(a.length:Int))))then(nthK a (Int.toNat b) fun c=>aI .i64 c fun c=>bif((decide (0≤(IntKind.i64.wrap (b-1))))&&(decide ((IntKind.i64.wrap (b-1))<(a.length:Int))))then(nthK a (Int.toNat (IntKind.i64.wrap (b-1))) fun d=>aI .i64 d fun d=>bif(c==d)then(bif(((decide (0≤b))&&(decide (b≤(a.length:Int))))&&(decide ((a.length:Int)≤(a.length:Int))))then(l46_2 G k a b (List.drop (Int.toNat b) (List.take (Int.toNat (a.length:Int)) a)) 1 (fun c d=>bif(((decide (0≤d))&&(decide (d≤(c.length:Int))))&&(decide ((c.length:Int)≤(c.length:Int))))then none else none))else none)else(X a (IntKind.i64.wrap (b+1))))else none)else none)else(Ko a))
def l46_0g{R:Type}(G:ORC R)(k:Nat)(Ko:Cu R J34)(j:Nat):Cu R J31:=lup J31 (fun X=>b46_0 G k X Ko) j
def l46_0{R:Type}(G:ORC R)(k:Nat)(a:LV)(b:Int)(Ko:Cu R J34):OV R:=l46_0g G k Ko k a b
def L46{R:Type}(G:ORC R)(k:Nat):Nat→St→(Ex→St→OV R)→OV R
 |2,S,K=>P46_2h.mat S fun vs=>uc J69 (l46_2g G k (koX J31 P46_2x K) k) vs none
 |0,S,K=>P46_0h.mat S fun vs=>uc J31 (l46_0g G k (koX J34 P46_0x K) k) vs none
 |_,_,_=>none
def f46{R:Type}(G:ORC R)(k:Nat)(a:LV)(K:LV→OV R):OV R:=
 (bif(decide ((a.length:Int)<2))then(K [.sl 1 a])else(l46_0 G k a 1 (fun a=>K [.sl 1 a])))
abbrev g46 {R:Type} (G:ORC R) (k:Nat):LV→(LV→OV R)→OV R:=gF J34 (f46 G k)
theorem s46{R:Type}{G:ORC R}{k:Nat}(hG:Sound Try.prog TAB G):TL 46 (g46 G k):=
 gG J34 (by kernel_rfl) (callF_sound (L:=L46 G k) (f:=46) TAB_chk MO hG Try.func46 (sg:=S46) (by kernel_rfl) (by kernel_rfl) (las [0,2] (by kernel_rfl) ⟨loopIs J31 k (fun K X=>b46_0 G k X (koX J34 P46_0x K)) P46_0h P46_0x default (by kernel_rfl) (by kernel_rfl) (by kernel_rfl) (fun K X=>by kernel_rfl) (fun S K=>by kernel_rfl),loopIs J69 k (fun K X=>b46_2 G k X (koX J31 P46_2x K)) P46_2h P46_2x default (by kernel_rfl) (by kernel_rfl) (by kernel_rfl) (fun K X=>by kernel_rfl) (fun S K=>by kernel_rfl),trivial⟩))
set_option linter.unusedSimpArgs false
def intsB(l:LV):Bool:=l.all fun v=>match v with| .int .i64 _=>true|_=>false
theorem intsB_ex:∀{l:LV},intsB l=true→∃zs:List Int,l=zs.map fun n=>V.int .i64 n
 | [],_=>⟨[],rfl⟩
 |v::r,h=>by
  unfold intsB at h
  rw[List.all_cons,Bool.and_eq_true]at h
  obtain⟨zs,e⟩:=intsB_ex (l:=r) h.2
  have h1:=h.1
  cases v with
  |int k n=>cases k with
   |i64=>exact⟨n::zs,by rw[e];rfl⟩
   |_=>cases h1
  |_=>cases h1
theorem oes_at{h:Hp}{ro:Nat→Prop}{d:Bool}{c:Array Value}:∀{zs:List Int} {off:Nat} {fp:List Nat},OEs h ro d (zs.map fun n=>V.int .i64 n) c off 1 fp→fp=[]∧∀j (n:Int),zs[j]? =some n→c[off+j]? =some (.int .i64 n)
 | [],off,fp,x=>⟨x,fun j n hj=>by simp at hj⟩
 |a::zs,off,fp,⟨f,g,e0,h1,h2,h3⟩=>by
  obtain⟨e2,e3⟩:=oes_at h3
  obtain⟨h2a,h2b⟩:=(show seg c off 1=[.int .i64 a]∧f=[]from h2)
  refine⟨by rw[e0,h2b,e2];rfl,fun j n hj=> ?_⟩
  cases j with
  |zero=>
   simp only[List.getElem?_cons_zero,Option.some.injEq]at hj
   subst hj
   have:=congrArg (fun l:List Value=>l[0]?) h2a
   simp only[seg_getElem,List.getElem?_cons_zero]at this
   simpa using this
  |succ j=>
   have:=e3 j n (by simpa using hj)
   rw[show off+(j+1)=off+1+j by omega];exact this
theorem at_oes{h:Hp}{ro:Nat→Prop}{d:Bool}{c:Array Value}:∀{zs:List Int} {off:Nat},(∀j (n:Int),zs[j]? =some n→c[off+j]? =some (.int .i64 n))→OEs h ro d (zs.map fun n=>V.int .i64 n) c off 1 []
 | [],off,_=>rfl
 |a::zs,off,hj=>by
  have h0:=hj 0 a (by simp)
  rw[Nat.add_zero]at h0
  have hs:seg c off 1=[.int .i64 a]:=by
   apply List.ext_getElem?
   intro i
   rw[seg_getElem]
   cases i with
   |zero=>simp[h0]
   |succ i=>simp
  exact⟨[],[],rfl,by rw[hs];rfl,⟨hs,rfl⟩,at_oes fun j n hjn=>by
   have:=hj (j+1) n (by simpa using hjn)
   rw[show off+1+j=off+(j+1)by omega];exact this⟩
def revRen:Go.Shelf.Ren:=⟨fun x=>if x=112 then 47 else 0,fun x=>if x=3 then 3 else if x=4 then 4 else if x=28 then 25 else 0,fun x=>x⟩
theorem revL:Go.Proofs.Lays.n112 Try.prog revRen:=
 {mixed:=MO,f112:=by kernel_rfl,t0:=by kernel_rfl,a0:=fun w=>by kernel_rfl,z0:=fun w=>by kernel_rfl,v0:=fun w=>by kernel_rfl,
  t3:=by kernel_rfl,a3:=fun w=>by kernel_rfl,z3:=fun w=>by kernel_rfl,v3:=fun w=>by kernel_rfl,
  t4:=by kernel_rfl,a4:=fun w=>by kernel_rfl,z4:=fun w=>by kernel_rfl,v4:=fun w=>by kernel_rfl,
  t28:=by kernel_rfl,a28:=fun w=>by kernel_rfl,z28:=fun w=>by kernel_rfl,v28:=fun w=>by kernel_rfl}
theorem rev_io{zs:List Int}(hz:zs.length≤1000000):IoOK Try.prog 47 [.sl 1 (zs.map fun n=>V.int .i64 n)] [.sl 1 (zs.reverse.map fun n=>V.int .i64 n)]:=by
 refine⟨_,_,rfl,rfl,fun w ro r fp hel hn hlt=> ?_⟩
 obtain⟨ad,len,cap,e1,e2,e3,y⟩:=hel
 injection e1 with e1 _
 subst e1
 rw[List.length_map]at e2
 subst e2
 show Calls Try.prog (revRen.f 112) _ w _
 by_cases h0:zs=[]
 ·subst h0
  refine(Go.Proofs.Any.slices_Reverse_int_empty revL ad cap w).mono fun e w' h=> ?_
  obtain⟨rfl,rfl⟩:=h
  exact⟨rfl,Same.refl _,Nat.le_refl _,fun _ _ _=>rfl,⟨ad,0,cap,rfl,rfl,e3,y⟩⟩
 ·have hpos:0<zs.length:=List.length_pos_iff.2 h0
  cases ad with
  |none=>obtain⟨hc,_⟩:=y;omega
  |some ad=>
   obtain⟨hsp,c,ty,hb,hbd,fp',hf,y⟩:=y
   simp only[if_true]at y
   obtain⟨rfl,hat⟩:=oes_at y
   obtain⟨bk,q,sp⟩:=ad
   simp only at hsp hb hbd hf hat
   subst hsp
   rw[Nat.mul_one]at hbd
   have hH:Go.Sort.Holds (Value.int .i64) w bk q zs.toArray:=fun j hj=>by
    have hj:j<zs.length:=by simpa using hj
    refine⟨?_,?_⟩
    ·simp only[World.cell?,hb]
     rw[hat j zs[j] (List.getElem?_eq_getElem hj)]
     simp[hj]
    ·simp[World.frozen?,hb]
   refine(Go.Proofs.Any.slices_Reverse_int revL bk q cap zs w hH (by omega)).mono fun e w' h=> ?_
   obtain⟨rfl,n,rfl⟩:=h
   let c2:=Go.Sort.putCells (Value.int .i64) q zs.reverse.toArray c
   have hblk:(Go.Sort.putRow (Value.int .i64) (Go.Sort.ahead w n) bk q zs.reverse.toArray).heap[bk]? =some (.cells c2 ty (0,0)):=by
    simp only[Go.Sort.putRow,Go.Sort.mapBlock,Go.Sort.ahead,Array.getElem?_modify,if_true,hb,Option.map_some,Go.Sort.onCells];rfl
   have hoth:∀x,x≠bk→(Go.Sort.putRow (Value.int .i64) (Go.Sort.ahead w n) bk q zs.reverse.toArray).heap[x]? =w.heap[x]? :=fun x hx=>by
    simp only[Go.Sort.putRow,Go.Sort.mapBlock,Go.Sort.ahead,Array.getElem?_modify]
    rw[if_neg (fun e=>hx e.symm)]
   have hsz:(Go.Sort.putRow (Value.int .i64) (Go.Sort.ahead w n) bk q zs.reverse.toArray).heap.size=w.heap.size:=by
    simp[Go.Sort.putRow,Go.Sort.mapBlock,Go.Sort.ahead]
   refine⟨rfl,⟨rfl,rfl,rfl⟩,by rw[hsz];exact Nat.le_refl _,fun x _ hx=>hoth x fun e=>hx (by rw[hf,e];simp),?_⟩
   refine⟨some ⟨bk,q,none⟩,zs.length,cap,rfl,by simp,e3,rfl,c2,ty,hblk,?_,[],hf,?_⟩
   ·simp only[c2,Go.Sort.putCells,Array.size_mapIdx,Nat.mul_one];exact hbd
   ·simp only[if_true]
    refine at_oes fun j v hj=> ?_
    have hjl:j<zs.length:=by have:=(List.getElem?_eq_some_iff.1 hj).1;simpa using this
    have hc:q+j<c.size:=by omega
    simp only[c2,Go.Sort.putCells,Array.getElem?_mapIdx,Array.getElem?_eq_getElem hc,Option.map_some]
    rw[if_pos (by simp;omega)]
    have e5:q+j-q=j:=by omega
    rw[e5]
    have hj2:=(List.getElem?_eq_some_iff.1 hj)
    obtain⟨hl2,hj2⟩:=hj2
    rw[getElem!_pos _ j (by simpa using hjl)]
    simp only[List.getElem_toArray,hj2]
def g47{R:Type}(G:ORC R)(k:Nat)(args:LV)(K:LV→OV R):OV R:=match args with
 | [.sl 1 l]=>bif decide (l.length≤1000000)then(bif intsB l then K [.sl 1 l.reverse]else none)else none
 |_=>none
theorem s47{R:Type}{G:ORC R}{k:Nat}(hG:Sound Try.prog TAB G)(args:LV)(K:LV→OV R)(r:R)(h:g47 G k args K=some r):∃o,CallOK Try.prog TAB.env 47 args o∧K o=some r:=by
 unfold g47 at h
 split at h
 ·rename_i l
  by_cases hl:l.length≤1000000
  ·rw[decide_eq_true hl]at h
   cases hp:intsB l with
   |false=>rw[hp]at h;cases h
   |true=>
   rw[hp]at h
   obtain⟨zs,rfl⟩:=intsB_ex hp
   refine⟨_,⟨_,S47,Try.func47,by kernel_rfl,by kernel_rfl,by kernel_rfl,by decide,fun _=> ?_,fun e=>by cases e⟩,h⟩
   rw[←List.map_reverse]
   exact rev_io (by simpa using hl)
  ·rw[decide_eq_false hl]at h;cases h
 ·cases h
def f48{R:Type}(G:ORC R)(k:Nat)(a b c d e b:Int)(b:ByteArray)(K:LV→OV R):OV R:=
 (bif(a==4)then(K [.bool true])else(K [.bool (a==5)]))
abbrev g48 {R:Type} (G:ORC R) (k:Nat):LV→(LV→OV R)→OV R:=gF J33 (f48 G k)
theorem s48{R:Type}{G:ORC R}{k:Nat}(hG:Sound Try.prog TAB G):TL 48 (g48 G k):=
 gG J33 (by kernel_rfl) (callF_sound (L:=fun _ _ _=>none) (f:=48) TAB_chk MO hG Try.func48 (sg:=S48) (by kernel_rfl) (by kernel_rfl) (las [] (by kernel_rfl) trivial))
def f49{R:Type}(G:ORC R)(k:Nat)(a:LV)(b:Int)(K:LV→OV R):OV R:=
 (bif(decide (b≥0))then(K [.bool (decide (b<(a.length:Int)))])else(K [.bool false]))
abbrev g49 {R:Type} (G:ORC R) (k:Nat):LV→(LV→OV R)→OV R:=gF J32 (f49 G k)
theorem s49{R:Type}{G:ORC R}{k:Nat}(hG:Sound Try.prog TAB G):TL 49 (g49 G k):=
 gG J32 (by kernel_rfl) (callF_sound (L:=fun _ _ _=>none) (f:=49) TAB_chk MO hG Try.func49 (sg:=S49) (by kernel_rfl) (by kernel_rfl) (las [] (by kernel_rfl) trivial))
theorem row_set{w:World}{β off:Nat}{c:Array Value}{ty:TypeId}{n:Int}(h:w.heap[β]? =some (.cells c ty (0,0)))(ho:off<c.size):w.setCell ⟨β,off,none⟩ (.int .i64 n)=w.setRow β (rec1 c off n):=by
 rw[setCell_eq_setRow w β off c ty (0,0) _ h]
 congr 1
 apply Array.ext'
 unfold rec1
 simp[List.set_eq_take_append_cons_drop,ho]
theorem row_get{w:World}{β:Nat}{c c':Array Value}{ty:TypeId}(h:w.heap[β]? =some (.cells c ty (0,0))):(w.setRow β c').heap[β]? =some (.cells c' ty (0,0)):=by
 simp only[World.setRow,Array.getElem?_modify,if_true,h,Option.map_some]
theorem rec1_size{c:Array Value}{off:Nat}{n:Int}(ho:off<c.size):(rec1 c off n).size=c.size:=by
 unfold rec1;simp;omega
theorem cell_at{w:World}{β off:Nat}{c:Array Value}{ty:TypeId}(h:w.heap[β]? =some (.cells c ty (0,0)))(ho:off<c.size):w.cell? ⟨β,off,none⟩=some c[off]∧w.frozen? ⟨β,off,none⟩=false:=by
 constructor
 ·simp[World.cell?,h,ho]
 ·simp[World.frozen?,h]
theorem catch_idle(β:Nat)(w:World):CallsD Try.prog 70 #[.pointer (some ⟨β,0,none⟩)] .returning w fun e u' w'=>(∃v,e= .returned v)∧u'= .returning∧w'=w:=by
 refine callsD_of_wpS Try.func70 rfl fun c₀ cs hu=> ?_
 apply wpS_seq
 apply wpS_region
 simp[wpOpsS,go_sem,recoverD,hu,Exit.thenS]
 apply wpS_seq
 apply wpS_region
 simp[wpOpsS,go_sem,Exit.thenS]
 refine wpS_cond (t:=false) (by simp[Act.eval,Array.replicate]) ?_
 simp only[Bool.false_eq_true,if_false]
 refine wpS_of_wp (wp_skip ?_)
 cases c₀
 simp_all [bodyPostS,results]
theorem under_pan:Try.prog.underlying 102=some (.int .i64):=by kernel_rfl
theorem assert_pan{n:Int}{w:World}{x:TypeId}:(Instr.typeAssert (.iface 102 (.int .i64 n)) x 102 true).run Try.prog w= .ok (.tuple #[.int .i64 n,.bool true]) w:=by
 simp[Instr.typeAssert,run_underlying under_pan]
theorem catch_pan(β:Nat)(c:Array Value)(ty:TypeId)(w:World)(n:Int)(hw:w.heap[β]? =some (.cells c ty (0,0)))(hc:c.size=6):
 CallsD Try.prog 70 #[.pointer (some ⟨β,0,none⟩)] (.panicking [{v:=.iface 102 (.int .i64 n),recovered:=false}]) w fun e u' w'=>(∃v,e= .returned v)∧u'= .panicking [{v:=.iface 102 (.int .i64 n),recovered:=true}]∧w'=recW w β c n:=by
 obtain⟨c0,z0⟩:=cell_at (off:=0) hw (by omega)
 have e0:=row_set (off:=0) (n:=0) hw (by omega)
 have hw1:=row_get (c':=rec1 c 0 0) hw
 have s1:(rec1 c 0 0).size=6:=by rw[rec1_size (by omega),hc]
 obtain⟨c5,z5⟩:=cell_at (off:=5) hw1 (by omega)
 have e5:=row_set (off:=5) (n:=n) hw1 (by omega)
 refine callsD_of_wpS Try.func70 rfl fun c₀ cs hu=> ?_
 apply wpS_seq
 apply wpS_region
 simp[wpOpsS,go_sem,recoverD,hu,Exit.thenS]
 apply wpS_seq
 apply wpS_region
 simp[wpOpsS,go_sem,Exit.thenS]
 refine wpS_cond (t:=true) (by simp[Act.eval,Array.replicate]) ?_
 simp only[if_true]
 apply wpS_seq
 apply wpS_region
 simp[wpOpsS,go_sem,Exit.thenS,c0,z0,e0]
 apply wpS_seq
 apply wpS_region
 simp[wpOpsS,go_sem,Exit.thenS,assert_pan]
 apply wpS_seq
 apply wpS_region
 simp[wpOpsS,go_sem,Exit.thenS,c5,z5,e5]
 apply wpS_seq
 apply wpS_region
 simp[wpOpsS,go_sem,Exit.thenS]
 refine wpS_cond (t:=false) (by simp[Act.eval,Act.put,Array.replicate]) ?_
 simp only[Bool.false_eq_true,if_false]
 refine wpS_of_wp (wp_skip ?_)
 cases c₀
 simp_all [bodyPostS,results,recW,Act.put]
theorem catch70:Catches Try.prog 70 102:=⟨⟨Try.f70,Try.func70,rfl,rfl⟩,catch_pan,catch_idle⟩
def P50_0h:Pat:={tmps:=unds [.var (.sl 4) .ro,pU,pU,pI,pU,pU,pU,pU,pS 8,pS 20] 67 [],boxes:=nons [] 8 (nons [some B19] 11 (nons [some B20] 56 []))}
def P50_0x:Pat:={tmps:=unds [] 8 (unds [pS 8,pS 20] 67 []),boxes:=nons [] 8 (nons [some B19] 11 (nons [some B20] 56 []))}
def P50_0r:Pat:={tmps:=unds [] 8 (unds [pS 8] 68 []),boxes:=nons [] 8 (nons [some B19] 68 [])}
def b50_0{R:Type}(G:ORC R)(k:Nat)(X:Cu R J72)(Ko:Cu R J70)(Kp:Cu R (.int .i64::J71))(a:LV)(b c:Int)(d e f:LV)(g h:Int)(i:LV)(l m n:Int)(o p:LV)(q:Int):OV R:=
 (bif(decide (q≥0))then(bif(decide (q<(a.length:Int)))then(bif(decide (g≥b))then(Kp 4 c d e f g h)else(bif((decide (0≤q))&&(decide (q<(a.length:Int))))then(nthK a (Int.toNat q) fun r=>V.asAgg r fun r=>G 71 [.agg r,.sl 4 i,.int .u64 l,.int .u64 m,.int .i64 n,.sl 1 o,.sl 1 p,.int .i64 q,.int .i64 c,.sl 1 d,.sl 2 e,.sl 4 f,.int .i64 (IntKind.i64.wrap (g+1)),.int .i64 h] fun r=>uB r fun r s=>uI .i64 s fun s t=>uI .u64 t fun t u=>uI .u64 u fun u v=>uI .i64 v fun v w=>uL 1 w fun w x=>uL 1 x fun x y=>uI .i64 y fun y z=>uI .i64 z fun z A=>uL 1 A fun A B=>uL 2 B fun B C=>uL 4 C fun C D=>uI .i64 D fun D E=>uI .i64 E fun E F=>unNil F (bif r then(Kp s z A B C D E)else(X a b z A B C D E i t u v w x y)))else none))else(Ko c d e f g h i l m n o p q))else(Ko c d e f g h i l m n o p q))
def l50_0g{R:Type}(G:ORC R)(k:Nat)(Ko:Cu R J70)(Kp:Cu R (.int .i64::J71))(j:Nat):Cu R J72:=lup J72 (fun X=>b50_0 G k X Ko Kp) j
def l50_0{R:Type}(G:ORC R)(k:Nat)(a:LV)(b c:Int)(d e f:LV)(g h:Int)(i:LV)(l m n:Int)(o p:LV)(q:Int)(Ko:Cu R J70)(Kp:Cu R (.int .i64::J71)):OV R:=l50_0g G k Ko Kp k a b c d e f g h i l m n o p q
def L50{R:Type}(G:ORC R)(k:Nat):Nat→St→(Ex→St→OV R)→OV R
 |0,S,K=>P50_0h.mat S fun vs=>uc J72 (l50_0g G k (koX J70 P50_0x K) (koP J71 P50_0r K) k) vs none
 |_,_,_=>none
def f50{R:Type}(G:ORC R)(k:Nat)(a b c d:LV)(d e:Int)(K:LV→OV R):OV R:=
 (G 41 [.sl 1 c] fun c=>uL 1 c fun c f=>unNil f (G 69 [.sl 1 b] fun b=>uA b fun b f=>uI .u64 b fun b g=>uI .u64 g fun g h=>unNil h (unNil f (l50_0 G k a (bif(decide (0<(bif(decide (1048576<e))then 1048576 else e)))then(bif(decide (1048576<e))then 1048576 else e)else 0) 0 c [] [] 0 0 a b g d [] [] 0 (fun a b c d e f g h i l g h i=>bif(decide ((g.length:Int)>0))then(bif((decide (0≤(IntKind.i64.wrap ((g.length:Int)-1))))&&(decide ((IntKind.i64.wrap ((g.length:Int)-1))<(g.length:Int))))then(nthK g (Int.toNat (IntKind.i64.wrap ((g.length:Int)-1))) fun g=>aI .i64 g fun g=>K [.agg [.int .i64 g,.sl 1 b,.sl 2 c,.sl 4 d,.int .i64 e,.int .i64 f]])else none)else(K [.agg [.int .i64 a,.sl 1 b,.sl 2 c,.sl 4 d,.int .i64 e,.int .i64 f]])) (fun a b c d e b f=>K [.agg [.int .i64 0,.sl 1 c,.sl 2 d,.sl 4 e,.int .i64 b,.int .i64 a]])))))
abbrev g50 {R:Type} (G:ORC R) (k:Nat):LV→(LV→OV R)→OV R:=gF J73 (f50 G k)
theorem s50{R:Type}{G:ORC R}{k:Nat}(hG:Sound Try.prog TAB G):TL 50 (g50 G k):=
 gG J73 (by kernel_rfl) (callD_sound catch70 (L:=L50 G k) (f:=50) TAB_chk MO hG Try.func50 (sg:=S50) (by kernel_rfl) (by kernel_rfl) (las [0] (by kernel_rfl) ⟨loopIs J72 k (fun K X=>b50_0 G k X (koX J70 P50_0x K) (koP J71 P50_0r K)) P50_0h P50_0x P50_0r (by kernel_rfl) (by kernel_rfl) (by kernel_rfl) (fun K X=>by kernel_rfl) (fun S K=>by kernel_rfl),trivial⟩))
def P52_0h:Pat:={tmps:=unds [pL,pI,pU,pU,pU,pU,pI,pI,pI] 45 [],boxes:=nons [] 54 []}
def P52_0x:Pat:={tmps:=unds [pL,pI,pU,pU,pU,pU,pI,pI] 46 [],boxes:=nons [] 54 []}
def b52_0{R:Type}(G:ORC R)(k:Nat)(X:Cu R J75)(Ko:Cu R J74)(a:LV)(b c d e:Int):OV R:=
 (bif(decide (d<e))then(bif((decide (0≤(IntKind.i64.wrap (Int.fdiv (IntKind.u64.wrap (IntKind.i64.wrap (d+e))) (2^(min 1 IntKind.u64.bits))))))&&(decide ((IntKind.i64.wrap (Int.fdiv (IntKind.u64.wrap (IntKind.i64.wrap (d+e))) (2^(min 1 IntKind.u64.bits))))<(a.length:Int))))then(nthK a (Int.toNat (IntKind.i64.wrap (Int.fdiv (IntKind.u64.wrap (IntKind.i64.wrap (d+e))) (2^(min 1 IntKind.u64.bits))))) fun f=>aI .i64 f fun f=>G 72 [.int .i64 f,.int .i64 b] fun f=>uB f fun f g=>unNil g (bif f then(X a b c (IntKind.i64.wrap ((IntKind.i64.wrap (Int.fdiv (IntKind.u64.wrap (IntKind.i64.wrap (d+e))) (2^(min 1 IntKind.u64.bits))))+1)) e)else(X a b c d (IntKind.i64.wrap (Int.fdiv (IntKind.u64.wrap (IntKind.i64.wrap (d+e))) (2^(min 1 IntKind.u64.bits)))))))else none)else(Ko a b c d))
def l52_0g{R:Type}(G:ORC R)(k:Nat)(Ko:Cu R J74)(j:Nat):Cu R J75:=lup J75 (fun X=>b52_0 G k X Ko) j
def l52_0{R:Type}(G:ORC R)(k:Nat)(a:LV)(b c d e:Int)(Ko:Cu R J74):OV R:=l52_0g G k Ko k a b c d e
def L52{R:Type}(G:ORC R)(k:Nat):Nat→St→(Ex→St→OV R)→OV R
 |0,S,K=>P52_0h.mat S fun vs=>uc J75 (l52_0g G k (koX J74 P52_0x K) k) vs none
 |_,_,_=>none
def f52{R:Type}(G:ORC R)(k:Nat)(a:LV)(b:Int)(K:LV→OV R):OV R:=
 (l52_0 G k a b (a.length:Int) 0 (a.length:Int) (fun a b c d=>bif(decide (d<c))then(bif((decide (0≤d))&&(decide (d<(a.length:Int))))then(nthK a (Int.toNat d) fun c=>aI .i64 c fun c=>bif(c==b)then(K [.int .i64 d,.bool true])else(bif((decide (0≤d))&&(decide (d<(a.length:Int))))then(nthK a (Int.toNat d) fun a=>aI .i64 a fun a=>G 73 [.int .i64 a] fun a=>uB a fun a c=>unNil c (bif a then(G 73 [.int .i64 b] fun a=>uB a fun a b=>unNil b (K [.int .i64 d,.bool a]))else(K [.int .i64 d,.bool false])))else none))else none)else(K [.int .i64 d,.bool false])))
abbrev g52 {R:Type} (G:ORC R) (k:Nat):LV→(LV→OV R)→OV R:=gF J31 (f52 G k)
theorem s52{R:Type}{G:ORC R}{k:Nat}(hG:Sound Try.prog TAB G):TL 52 (g52 G k):=
 gG J31 (by kernel_rfl) (callF_sound (L:=L52 G k) (f:=52) TAB_chk MO hG Try.func52 (sg:=S52) (by kernel_rfl) (by kernel_rfl) (las [0] (by kernel_rfl) ⟨loopIs J75 k (fun K X=>b52_0 G k X (koX J74 P52_0x K)) P52_0h P52_0x default (by kernel_rfl) (by kernel_rfl) (by kernel_rfl) (fun K X=>by kernel_rfl) (fun S K=>by kernel_rfl),trivial⟩))
def intsC(l:LV):Bool:=l.all fun v=>match v with| .int .i64 _=>true|_=>false
theorem intsC_ex:∀{l:LV},intsC l=true→∃zs:List Int,l=zs.map fun n=>V.int .i64 n
 | [],_=>⟨[],rfl⟩
 |v::r,h=>by
  unfold intsC at h
  rw[List.all_cons,Bool.and_eq_true]at h
  obtain⟨zs,e⟩:=intsC_ex (l:=r) h.2
  have h1:=h.1
  cases v with
  |int k n=>cases k with
   |i64=>exact⟨n::zs,by rw[e];rfl⟩
   |_=>cases h1
  |_=>cases h1
theorem oesC_at{h:Hp}{ro:Nat→Prop}{d:Bool}{c:Array Value}:∀{zs:List Int} {off:Nat} {fp:List Nat},OEs h ro d (zs.map fun n=>V.int .i64 n) c off 1 fp→fp=[]∧∀j (n:Int),zs[j]? =some n→c[off+j]? =some (.int .i64 n)
 | [],off,fp,x=>⟨x,fun j n hj=>by simp at hj⟩
 |a::zs,off,fp,⟨f,g,e0,h1,h2,h3⟩=>by
  obtain⟨e2,e3⟩:=oesC_at h3
  obtain⟨h2a,h2b⟩:=(show seg c off 1=[.int .i64 a]∧f=[]from h2)
  refine⟨by rw[e0,h2b,e2];rfl,fun j n hj=> ?_⟩
  cases j with
  |zero=>
   simp only[List.getElem?_cons_zero,Option.some.injEq]at hj
   subst hj
   have:=congrArg (fun l:List Value=>l[0]?) h2a
   simp only[seg_getElem,List.getElem?_cons_zero]at this
   simpa using this
  |succ j=>
   have:=e3 j n (by simpa using hj)
   rw[show off+(j+1)=off+1+j by omega];exact this
theorem at_oesC{h:Hp}{ro:Nat→Prop}{d:Bool}{c:Array Value}:∀{zs:List Int} {off:Nat},(∀j (n:Int),zs[j]? =some n→c[off+j]? =some (.int .i64 n))→OEs h ro d (zs.map fun n=>V.int .i64 n) c off 1 []
 | [],off,_=>rfl
 |a::zs,off,hj=>by
  have h0:=hj 0 a (by simp)
  rw[Nat.add_zero]at h0
  have hs:seg c off 1=[.int .i64 a]:=by
   apply List.ext_getElem?
   intro i
   rw[seg_getElem]
   cases i with
   |zero=>simp[h0]
   |succ i=>simp
  exact⟨[],[],rfl,by rw[hs];rfl,⟨hs,rfl⟩,at_oesC fun j n hjn=>by
   have:=hj (j+1) n (by simpa using hjn)
   rw[show off+1+j=off+(j+1)by omega];exact this⟩
theorem lib_ok{P:Program}{EE:FuncId→Env}{f:FuncId}{fn:Func}{sg:Sig}{vs:LV}{v:V}{kd:Kd}{t:Nat}(hf:P.funcs[rf f]? =some fn)(hsg:(EE f).sig f=some sg)(hn:(fn.name== "runtime.NumGoroutine")=false)(hb:fn.body.isNone=false)
 (hl:sg.params.length≤fn.ntmps) (hbx:sg.boxes=[]) (ho:sg.outs=[(.own true,kd)]) (hp:sg.pan=false) (hio:sg.io=false) (hr:fn.results= #[.tmp t]) (ht:t<fn.ntmps) (hv:v.isAgg=false) (hlen:(initP sg.params vs).1.length≤fn.ntmps)
 (H:∀(fr:Fr) (w:World) (g:Gh) (args:Array Value),Sim fr (initSt sg fn.ntmps vs) ⟨args++Array.replicate (fn.ntmps-args.size) undef,[]⟩ w g []→args.size=sg.params.length→
   Calls P (rf f) args w fun e w'=>∃r fp,e= .returned r∧OEl w'.heap g.ro true v [r] fp∧fp.Nodup∧(∀x∈fp,x<w'.heap.size∧(g.ow x≠ .none∨w.heap.size≤x))∧(∀x,x<w.heap.size→g.ow x= .none→w'.heap[x]? =w.heap[x]?)∧w.heap.size≤w'.heap.size∧Same w w'):
 CallOK P EE f vs [v]:=by
 refine⟨fn,sg,hf,hsg,hn,hb,hl,fun e=>(by rw[hio]at e;cases e),fun _ fr w g args hs hw hbs hsz=> ?_⟩
 subst hw
 refine(H fr fr.w0 g args hs hsz).mono fun e w' h=> ?_
 obtain⟨r,fp,rfl,h1,h2,h3,h4,h5,h6⟩:=h
 have hnb:∀b,(initSt sg fn.ntmps vs).bx b=none:=fun b=>by
  have e:initSt sg fn.ntmps vs=⟨(initP sg.params vs).1++List.replicate (fn.ntmps-(initP sg.params vs).1.length) (.undef,0),initB sg.boxes (initP sg.params vs).2++List.replicate fn.ntmps none⟩:=rfl
  rw[e,hbx,bx_eq]
  simp only[initB,List.nil_append,List.getElem?_replicate]
  split<;>rfl
 let S':St:=⟨(List.replicate fn.ntmps (Sl.undef,0)).set t (.one v (.own true),0),(initSt sg fn.ntmps vs).boxes⟩
 let a':Act:=⟨(Array.replicate fn.ntmps undef).setIfInBounds t r,[]⟩
 let g':Gh:=⟨g.ro,fun x=>if x∈fp then .loc (.s t)else .none,fun l=>if l= .s t then fp else[],fun _=>none⟩
 have hst:S'.tmps[t]? =some (.one v (.own true),0):=by simp[S',ht]
 have hs0:(S'.sl t).1= .one v (.own true):=by
  show(S'.tmps.getD t (Sl.undef,0)).1=_
  rw[List.getD_eq_getElem?_getD,hst];rfl
 refine⟨S',a',g',[v],⟨hs.defers,by simp[a',S'],fun s x hx=> ?_,fun b cs hc=> ?_,fun b _=>rfl,fun l x hx=> ?_,fun l=> ?_,fun b x hx=>(by cases hx),fun x hx=>(by cases hx),.nil,fun x hx=> ?_,fun x hx=>Nat.lt_of_lt_of_le (hs.rolt x hx) h5,hs.ro0,hs.ro1,fun x hx hw=> ?_,h5,h6.os,h6.tape,h6.output,?_,fun b β hb=> ?_⟩,?_,?_,?_⟩
 ·by_cases e:s=t
  ·subst e
   rw[hst]at hx
   cases hx
   refine⟨r,by simp[a',ht],?_⟩
   have hfp:g'.fp (.s s)=fp:=by simp only[g',if_true]
   rw[hfp]
   show RW w'.heap g.ro (.own true) v r fp
   unfold RW
   split
   ·cases hv
   ·exact h1
  ·have hl2:s<fn.ntmps:=by
    have:=(List.getElem?_eq_some_iff.1 hx).1
    simpa [S']using this
   have hx2:x=(Sl.undef,0):=by
    simp only[S']at hx
    rw[List.getElem?_set_ne (fun k=>e k.symm),List.getElem?_replicate,if_pos hl2]at hx
    exact(Option.some.inj hx).symm
   subst hx2
   refine⟨undef,by simp[a',hl2,Array.getElem?_setIfInBounds,Ne.symm e,fun k:t=s=>e k.symm],?_⟩
   show(if Lo.s s=Lo.s t then fp else[])=[]
   rw[if_neg (fun k=>e (by injection k))]
 ·have:(initSt sg fn.ntmps vs).bx b=some cs:=hc
  rw[hnb b]at this;cases this
 ·simp only[g']at hx ⊢
  by_cases e:l= .s t
  ·subst e;rw[if_pos rfl]at hx;rw[if_pos hx]
  ·rw[if_neg e]at hx;cases hx
 ·simp only[g']
  split
  ·exact h2
  ·exact .nil
 ·simp only[g']at hx
  by_cases e:x∈fp
  ·obtain⟨k1,k2⟩:=h3 x e
   rcases k2 with k2|k2
   ·obtain⟨q1,q2,q3⟩:=hs.free x k2
    exact⟨q1,k1,q3⟩
   ·exact⟨fun k=>Nat.not_lt.2 k2 (hs.rolt x k),k1,.inl k2⟩
  ·rw[if_neg e]at hx;exact(hx rfl).elim
 ·refine h4 x hx ?_
  cases ho:g.ow x with
  |none=>rfl
  |_=>
   rcases(hs.free x (by rw[ho];exact fun k=>by cases k)).2.2 with k|k
   ·exact absurd hx (Nat.not_lt.2 k)
   ·exact absurd k hw
 ·have e:=hs.bl
  have e1:(initSt sg fn.ntmps vs).tmps.length=fn.ntmps:=by
   show((initP sg.params vs).1++List.replicate (fn.ntmps-(initP sg.params vs).1.length) (Sl.undef,0)).length=_
   rw[List.length_append,List.length_replicate];omega
  rw[e1]at e
  show _+((List.replicate fn.ntmps (Sl.undef,0)).set t _).length≤_
  rw[List.length_set,List.length_replicate];exact e
 ·have:=hs.bb0 b β hb
  rw[hs.noBox b (hnb b)]at this;cases this
 ·unfold finish
  rw[ho,hr,hbx]
  simp only[List.map_cons,List.map_nil,resPlace,placesOK,List.length_nil,resVs,resV,hs0,M.gives,outB]
  rfl
 ·simp only[preO,hp,cond_false]
 ·have:(results fn a'.tmps).run P w'= .ok (a'.tmps.getD t undef) w':=by
   rw[results_eq,hr]
   simp[resSem]
  rw[this]
  have:a'.tmps.getD t undef=r:=by simp[a',Array.getD,ht]
  rw[this]
theorem cells_set{b:Nat}{ty:TypeId}{fz:Nat×Nat}:∀{vs:List Value} {o:Nat} {w:World} {c:Array Value},w.heap[b]? =some (.cells c ty fz)→
 Same w (w.setCells b o vs)∧(w.setCells b o vs).heap.size=w.heap.size∧(∀x,x≠b→(w.setCells b o vs).heap[x]? =w.heap[x]?)∧∃c',(w.setCells b o vs).heap[b]? =some (.cells c' ty fz)∧c'.size=c.size∧
  ∀j,j<c.size→c'[j]? =if o≤j∧j<o+vs.length then vs[j-o]? else c[j]?
 | [],o,w,c,h=>⟨Same.refl _,rfl,fun _ _=>rfl,c,h,rfl,fun j hj=>by
     rw[if_neg (fun k=>by simp at k;omega)]⟩
 |v::r,o,w,c,h=>by
  rw[World.setCells.eq_2]
  have hb:(w.setCell ⟨b,o,none⟩ v).heap[b]? =some (.cells (c.setIfInBounds o v) ty fz):=by
   simp only[World.setCell,Array.getElem?_modify,if_true,h,Option.map_some];rfl
  obtain⟨s1,s2,s3,c',s4,s5,s6⟩:=cells_set (vs:=r) (o:=o+1) hb
  refine⟨⟨s1.os,s1.tape,s1.output⟩,by rw[s2];simp[World.setCell],fun x hx=> ?_,c',s4,by rw[s5];simp,fun j hj=> ?_⟩
  ·rw[s3 x hx]
   simp only[World.setCell,Array.getElem?_modify]
   rw[if_neg (fun e=>hx e.symm)]
  ·rw[s6 j (by simpa using hj)]
   by_cases e:j=o
   ·subst e
    rw[if_neg (by omega),if_pos ⟨Nat.le_refl _,by simp⟩]
    simp[hj]
   ·by_cases e2:o+1≤j∧j<o+1+r.length
    ·rw[if_pos e2,if_pos ⟨by omega,by simp;omega⟩]
     rw[show j-o=(j-(o+1))+1 by omega,List.getElem?_cons_succ]
    ·rw[if_neg e2,if_neg (fun k=>e2 ⟨by omega,by have:=k.2;simp at this;omega⟩)]
     rw[Array.getElem?_setIfInBounds,if_neg (fun k=>e k.symm)]
def insRen:Go.Shelf.Ren:=⟨fun x=>if x=21 then 53 else if x=27 then 74 else if x=28 then 75 else if x=35 then 100 else if x=39 then 47 else 0,fun x=>if x=3 then 3 else if x=4 then 4 else if x=22 then 25 else if x=0 then 0 else 0,fun x=>x⟩
theorem insL:Go.Proofs.Lays2.n21 Try.prog insRen:=
 {mixed:=MO,f21:=by kernel_rfl,f27:=by kernel_rfl,f28:=by kernel_rfl,f35:=by kernel_rfl,f39:=by kernel_rfl,
  t0:=by kernel_rfl,a0:=fun w=>by kernel_rfl,z0:=fun w=>by kernel_rfl,v0:=fun w=>by kernel_rfl,
  t3:=by kernel_rfl,a3:=fun w=>by kernel_rfl,z3:=fun w=>by kernel_rfl,v3:=fun w=>by kernel_rfl,
  t4:=by kernel_rfl,a4:=fun w=>by kernel_rfl,z4:=fun w=>by kernel_rfl,v4:=fun w=>by kernel_rfl,
  t22:=by kernel_rfl,a22:=fun w=>by kernel_rfl,z22:=fun w=>by kernel_rfl,v22:=fun w=>by kernel_rfl,i3:=by kernel_rfl}
theorem ins_get{zs xs:List Int}{i:Nat}(hi:i≤zs.length){j:Nat}:(zs.take i++xs++zs.drop i)[j]? =if j<i then zs[j]? else if j<i+xs.length then xs[j-i]? else zs[j-xs.length]? :=by
 have h1:(zs.take i).length=i:=by simp;omega
 by_cases a:j<i
 ·rw[if_pos a,List.append_assoc,List.getElem?_append_left (by omega),List.getElem?_take,if_pos a]
 ·rw[if_neg a,List.append_assoc,List.getElem?_append_right (by omega),h1]
  by_cases b:j<i+xs.length
  ·rw[if_pos b,List.getElem?_append_left (by omega)]
  ·rw[if_neg b,List.getElem?_append_right (by omega),List.getElem?_drop]
   congr 1;omega
theorem ins_ok{zs xs:List Int}{i:Nat}(hz:zs.length≤1000000)(hx:xs.length≤1000000)(hx0:0<xs.length)(hi:i≤zs.length):
 CallOK Try.prog TAB.env 53 [.sl 1 (zs.map fun n=>V.int .i64 n),.int .i64 i,.sl 1 (xs.map fun n=>V.int .i64 n)] [.sl 1 ((zs.take i++xs++zs.drop i).map fun n=>V.int .i64 n)]:=by
 refine lib_ok (fn:=Try.f53) (sg:=S53) (t:=6) (by kernel_rfl) (by kernel_rfl) (by kernel_rfl) (by kernel_rfl) (by decide) rfl rfl rfl rfl rfl (by decide) rfl (show 3≤Try.f53.ntmps by decide) fun fr w g args hs hsz=> ?_
 have hsz:args.size=3:=hsz
 obtain⟨r0,e0,o0⟩:=hs.slots 0 (.one (.sl 1 (zs.map fun n=>V.int .i64 n)) (.own true),0) rfl
 obtain⟨r1,e1,o1⟩:=hs.slots 1 (.one (.int .i64 i) .pr,0) rfl
 obtain⟨r2,e2,o2⟩:=hs.slots 2 (.one (.sl 1 (xs.map fun n=>V.int .i64 n)) (.own true),0) rfl
 have ha:args= #[r0,r1,r2]:=by
  apply Array.ext_getElem?
  intro k
  by_cases k3:k<3
  ·have key:∀{q:Nat} {r:Value},q<3→(args++Array.replicate (Try.f53.ntmps-args.size) undef)[q]? =some r→args[q]? =some r:=fun hq e=>by
    rw[Array.getElem?_append_left (by omega)]at e;exact e
   have q0:=key (by decide) e0
   have q1:=key (by decide) e1
   have q2:=key (by decide) e2
   rcases(show k=0∨k=1∨k=2 by omega)with rfl|rfl|rfl
   ·rw[q0];rfl
   ·rw[q1];rfl
   ·rw[q2];rfl
  ·rw[Array.getElem?_eq_none (by omega),Array.getElem?_eq_none (by simp;omega)]
 obtain⟨a0,n0,c0,e3,e4,e5,y⟩:=show OEl w.heap g.ro true (.sl 1 (zs.map fun n=>V.int .i64 n)) [r0] (g.fp (.s 0))from o0
 obtain⟨a2,n2,c2,e6,e7,e8,z⟩:=show OEl w.heap g.ro true (.sl 1 (xs.map fun n=>V.int .i64 n)) [r2] (g.fp (.s 2))from o2
 injection e3 with e3 _
 injection e6 with e6 _
 have e9:r1= .int .i64 i:=by
  have:=(show RM w.heap g.ro .pr (.int .i64 i) [r1] (g.fp (.s 1))from o1).2.1
  injection(show[r1]=[Value.int .i64 i]from this)
 subst e3;subst e6;subst e9
 rw[List.length_map]at e4 e7
 subst e4;subst e7
 rw[ha]
 show Calls Try.prog (insRen.f 21) _ w _
 cases a2 with
 |none=>obtain⟨hc,_⟩:=z;omega
 |some ad2=>
 obtain⟨bv,ov,sv⟩:=ad2
 obtain⟨hv1,cv,tv,hvb,hvd,fpv,hvf,hvo⟩:=z
 simp only at hv1 hvb hvd hvf hvo
 subst hv1
 simp only[if_true]at hvo
 obtain⟨rfl,hvat⟩:=oesC_at hvo
 let vs:List Value:=xs.map fun n=>Value.int .i64 n
 have hvl:vs.length=xs.length:=by simp[vs]
 have hone:∀{l:List Int} v,v∈(l.map fun n=>Value.int .i64 n)→v.oneCell'=true:=fun v h=>by
  obtain⟨n,_,rfl⟩:=List.mem_map.1 h;rfl
 have hvs:∀j v,vs[j]? =some v→w.cell? ⟨bv,ov+j,none⟩=some v:=fun j v h=>by
  simp only[vs,List.getElem?_map,Option.map_eq_some_iff]at h
  obtain⟨n,h1,rfl⟩:=h
  simp only[World.cell?,hvb]
  exact hvat j n h1
 let cs:List Value:=zs.map fun n=>Value.int .i64 n
 have hcl:cs.length=zs.length:=by simp[cs]
 have fin:∀{c':Array Value} {off:Nat},(∀j,j<zs.length+xs.length→c'[off+j]? =if j<i then cs[j]? else if j<i+xs.length then vs[j-i]? else cs[j-xs.length]?)→
  ∀j (n:Int),(zs.take i++xs++zs.drop i)[j]? =some n→c'[off+j]? =some (.int .i64 n):=fun{c' off} h j n hj=>by
  have hl:j<zs.length+xs.length:=by
   have:=(List.getElem?_eq_some_iff.1 hj).1
   simp at this;omega
  rw[h j hl]
  rw[ins_get hi]at hj
  simp only[cs,vs,List.getElem?_map]
  split at hj
  ·rename_i k;rw[if_pos k,hj];rfl
  ·rename_i k
   rw[if_neg k]
   split at hj
   ·rename_i k;rw[if_pos k,hj];rfl
   ·rename_i k;rw[if_neg k,hj];rfl
 have hlen:(zs.take i++xs++zs.drop i).length=zs.length+xs.length:=by simp;omega
 have grown:∀{w':World} {c':Array Value} {ty:TypeId} {cap:Nat},Same w w'→w'.heap.size=w.heap.size+1→(∀x,x<w.heap.size→w'.heap[x]? =w.heap[x]?)→w'.heap[w.heap.size]? =some (.cells c' ty (0,0))→zs.length+xs.length≤cap∧cap≤9223372036854775807→cap≤c'.size→
  (∀j,j<zs.length+xs.length→c'[0+j]? =if j<i then cs[j]? else if j<i+xs.length then vs[j-i]? else cs[j-xs.length]?)→
  ∃r fp,Ending.returned (Value.slice (some ⟨w.heap.size,0,none⟩) (zs.length+xs.length) cap)= .returned r∧OEl w'.heap g.ro true (.sl 1 ((zs.take i++xs++zs.drop i).map fun n=>V.int .i64 n)) [r] fp∧fp.Nodup∧(∀x∈fp,x<w'.heap.size∧(g.ow x≠ .none∨w.heap.size≤x))∧(∀x,x<w.heap.size→g.ow x= .none→w'.heap[x]? =w.heap[x]?)∧w.heap.size≤w'.heap.size∧Same w w':=fun{w' c' ty cap} hS h1 h2 h3 h4 h5 h6=>by
  refine⟨_,[w.heap.size],rfl,⟨some ⟨w.heap.size,0,none⟩,zs.length+xs.length,cap,rfl,by rw[List.length_map,hlen],h4,rfl,c',ty,h3,by simp;omega,[],rfl,?_⟩,by simp,fun x hx=> ?_,fun x hx _=>h2 x hx,by omega,hS⟩
  ·simp only[if_true]
   exact at_oesC (fin h6)
  ·simp only[List.mem_singleton]at hx
   subst hx
   exact⟨by omega,.inr (Nat.le_refl _)⟩
 have hg:=fun c t=>(⟨grownCap_ge w (zs.length+xs.length) c t,Nat.le_trans (grownCap_le_maxLen w (zs.length+xs.length) c t (Nat.le_trans (show zs.length+xs.length≤2000000 by omega) (by decide))) (by decide)⟩:zs.length+xs.length≤grownCap w (zs.length+xs.length) c t∧grownCap w (zs.length+xs.length) c t≤9223372036854775807)
 have push_lt:∀{o:Obj} {x:Nat},x<w.heap.size→(w.heap.push o)[x]? =w.heap[x]? :=fun hx=>by
  rw[Array.getElem?_push,if_neg (by omega)]
 have push_eq:∀{o:Obj},(w.heap.push o)[w.heap.size]? =some o:=by simp
 cases a0 with
 |none=>
  obtain⟨hc0,hf0⟩:=y
  have hz0:zs.length=0:=by omega
  have hi0:i=zs.length:=by omega
  subst hi0
  refine(Go.Proofs.Any2.slices_Insert_int_end_grow insL none zs.length c0 bv ov xs.length c2 cs vs w hx0 e5.1 (by omega) (by omega) hcl hvl (fun _=>hz0) (fun a e=>by cases e) hvs hone).mono fun e w' h=> ?_
  obtain⟨rfl,rfl⟩:=h
  refine grown ⟨rfl,rfl,rfl⟩ (Array.size_push _) (fun x hx=>push_lt hx) push_eq (hg _ _) ?_ fun j hj=> ?_
  ·simp[Builtin.zeroCells,Value.cells,hcl,hvl];have:=hg c0 (insRen.t 3);omega
  ·rw[Nat.zero_add,Array.getElem?_append_left (by simp[hcl,hvl];omega),List.getElem?_toArray,List.getElem?_append]
   simp only[hcl]
   by_cases k:j<zs.length
   ·rw[if_pos k,if_pos k]
   ·rw[if_neg k,if_neg k,if_pos hj]
 |some ad0=>
 obtain⟨bk,ok,sk⟩:=ad0
 obtain⟨hk1,ck,tk,hkb,hkd,fpk,hkf,hko⟩:=y
 simp only at hk1 hkb hkd hkf hko
 subst hk1
 simp only[if_true]at hko
 obtain⟨rfl,hkat⟩:=oesC_at hko
 have hwk:g.ow bk= .loc (.s 0):=hs.own (.s 0) bk (by rw[hkf];simp)
 have hwv:g.ow bv= .loc (.s 2):=hs.own (.s 2) bv (by rw[hvf];simp)
 have hne:bv≠bk:=fun e=>by rw[e,hwk]at hwv;cases hwv
 have hcs:∀j v,cs[j]? =some v→w.cell? ⟨bk,ok+j,none⟩=some v:=fun j v h=>by
  simp only[cs,List.getElem?_map,Option.map_eq_some_iff]at h
  obtain⟨n,h1,rfl⟩:=h
  simp only[World.cell?,hkb]
  exact hkat j n h1
 rw[Nat.mul_one]at hkd hvd
 have hlt:bk<w.heap.size:=by
  have:=(Array.getElem?_eq_some_iff.1 hkb).1;exact this
 by_cases hroom:zs.length+xs.length≤c0
 ·have hc63:c0≤9223372036854775807:=e5.2
  have place:∀{w':World} {c':Array Value},Same w w'→w'.heap.size=w.heap.size→(∀x,x≠bk→w'.heap[x]? =w.heap[x]?)→w'.heap[bk]? =some (.cells c' tk (0,0))→c'.size=ck.size→
   (∀j,j<zs.length+xs.length→c'[ok+j]? =if j<i then cs[j]? else if j<i+xs.length then vs[j-i]? else cs[j-xs.length]?)→
   ∃r fp,Ending.returned (Value.slice (some ⟨bk,ok,none⟩) (zs.length+xs.length) c0)= .returned r∧OEl w'.heap g.ro true (.sl 1 ((zs.take i++xs++zs.drop i).map fun n=>V.int .i64 n)) [r] fp∧fp.Nodup∧(∀x∈fp,x<w'.heap.size∧(g.ow x≠ .none∨w.heap.size≤x))∧(∀x,x<w.heap.size→g.ow x= .none→w'.heap[x]? =w.heap[x]?)∧w.heap.size≤w'.heap.size∧Same w w':=fun{w' c'} hS h1 h2 h3 h4 h6=>by
   refine⟨_,[bk],rfl,⟨some ⟨bk,ok,none⟩,zs.length+xs.length,c0,rfl,by rw[List.length_map,hlen],⟨hroom,hc63⟩,rfl,c',tk,h3,by simp only[Nat.mul_one];omega,[],rfl,?_⟩,by simp,fun x hx=> ?_,fun x hx hn=>h2 x (fun e=>by rw[e,hwk]at hn;cases hn),by omega,hS⟩
   ·simp only[if_true]
    exact at_oesC (fin h6)
   ·simp only[List.mem_singleton]at hx
    subst hx
    exact⟨by omega,.inl (by rw[hwk];exact fun e=>by cases e)⟩
  have hcell:∀j,j<zs.length+xs.length→(w.cell? ⟨bk,ok+j,none⟩).isSome=true:=fun j hj=>by
   simp only[World.cell?,hkb]
   simp only[Option.isSome_none,Bool.false_eq_true,if_false]
   rw[Array.getElem?_eq_getElem (by omega)];rfl
  have hfz:∀j,w.frozen? ⟨bk,ok+j,none⟩=false:=fun j=>by simp[World.frozen?,hkb]
  have hold:∀j,j<zs.length→ck[ok+j]? =cs[j]? :=fun j hj=>by
   have h1:zs[j]? =some zs[j]:=List.getElem?_eq_getElem hj
   rw[hkat j _ h1]
   simp only[cs,List.getElem?_map,h1];rfl
  by_cases hie:i=zs.length
  ·subst hie
   refine(Go.Proofs.Any2.slices_Insert_int_end_room insL bk ok zs.length c0 bv ov xs.length c2 vs w hx0 hroom hc63 hvl (fun j hj=>by rw[Nat.add_assoc];exact hcell _ (by omega)) (fun j _=>by rw[Nat.add_assoc];exact hfz _) hvs hone).mono fun e w' h=> ?_
   obtain⟨rfl,rfl⟩:=h
   obtain⟨s1,s2,s3,c',s4,s5,s6⟩:=cells_set (vs:=vs) (o:=ok+zs.length) hkb
   refine place s1 s2 s3 s4 s5 fun j hj=> ?_
   rw[s6 _ (by omega),hvl]
   by_cases k:j<zs.length
   ·rw[if_neg (by omega),if_pos k,hold j k]
   ·rw[if_pos (by omega),if_neg k,if_pos hj]
    congr 1;omega
  ·refine(Go.Proofs.Any2.slices_Insert_int_shift insL bk ok zs.length c0 i bv ov xs.length c2 cs vs w (by omega) hx0 hroom hc63 hne hcl hvl hcs hcell (fun j _=>hfz j) hvs hone hone tv tk cv.size ck.size (by simp[World.shape?,hvb]) (by simp[World.shape?,hkb]) (by omega) (by simp[World.frozen?,hvb]) (by simp[World.frozen?,hvb])).mono fun e w' h=> ?_
   obtain⟨rfl,rfl⟩:=h
   obtain⟨s1,s2,s3,c',s4,s5,s6⟩:=cells_set (w:=w.drew) (vs:=List.drop i cs) (o:=ok+(i+xs.length)) hkb
   obtain⟨t1,t2,t3,c'',t4,t5,t6⟩:=cells_set (vs:=vs) (o:=ok+i) s4
   refine place ⟨t1.os.trans s1.os,t1.tape.trans s1.tape,t1.output.trans s1.output⟩ (t2.trans s2) (fun x hx=>(t3 x hx).trans (s3 x hx)) t4 (t5.trans s5) fun j hj=> ?_
   rw[t6 _ (by omega),hvl]
   by_cases k:j<i
   ·rw[if_neg (by omega),s6 _ (by omega),if_neg (by omega),if_pos k,hold j (by omega)]
   ·rw[if_neg k]
    by_cases k2:j<i+xs.length
    ·rw[if_pos (by omega),if_pos k2]
     congr 1;omega
    ·rw[if_neg (by omega),if_neg k2,s6 _ (by omega),if_pos (by rw[List.length_drop,hcl];omega),List.getElem?_drop]
     congr 1;omega
 ·by_cases hie:i=zs.length
  ·subst hie
   have hadd:∀a,some (⟨bk,ok,none⟩:Addr)=some a→∀j v,cs[j]? =some v→w.cell? (a.add j)=some v:=fun a e j v h=>by
    cases e
    cases j with
    |zero=>simpa [Addr.add]using hcs 0 v h
    |succ j=>simpa [Addr.add]using hcs (j+1) v h
   refine(Go.Proofs.Any2.slices_Insert_int_end_grow insL (some ⟨bk,ok,none⟩) zs.length c0 bv ov xs.length c2 cs vs w hx0 e5.1 (by omega) (by omega) hcl hvl (fun e=>by cases e) hadd hvs hone).mono fun e w' h=> ?_
   obtain⟨rfl,rfl⟩:=h
   refine grown ⟨rfl,rfl,rfl⟩ (Array.size_push _) (fun x hx=>push_lt hx) push_eq (hg _ _) ?_ fun j hj=> ?_
   ·simp[Builtin.zeroCells,Value.cells,hcl,hvl];have:=hg c0 (insRen.t 3);omega
   ·rw[Nat.zero_add,Array.getElem?_append_left (by simp[hcl,hvl];omega),List.getElem?_toArray,List.getElem?_append]
    simp only[hcl]
    by_cases k:j<zs.length
    ·rw[if_pos k,if_pos k]
    ·rw[if_neg k,if_neg k,if_pos hj]
  ·refine(Go.Proofs.Any2.slices_Insert_int_grow insL bk ok zs.length c0 i bv ov xs.length c2 cs vs w (by omega) hx0 e5.1 (by omega) (by omega) hcl hvl hcs hvs hone hone).mono fun e w' h=> ?_
   obtain⟨rfl,rfl⟩:=h
   have hcap:=hg c0 (insRen.t 3)
   obtain⟨s1,s2,s3,c',s4,s5,s6⟩:=cells_set (w:=(w.alloc (Obj.cells ((List.take i cs).toArray++Builtin.zeroCells (Value.int IntKind.i64 0).cells (zs.length+xs.length-i)++Builtin.zeroCells (Value.int IntKind.i64 0).cells (grownCap w (zs.length+xs.length) c0 (insRen.t 3)-(zs.length+xs.length))) (insRen.t 3))).drew) (vs:=vs) (o:=i) push_eq
   obtain⟨t1,t2,t3,c'',t4,t5,t6⟩:=cells_set (w:=World.drew _) (vs:=List.drop i cs) (o:=i+xs.length) s4
   have hsz:c'.size=grownCap w (zs.length+xs.length) c0 (insRen.t 3):=by
    rw[s5];simp[Builtin.zeroCells,Value.cells,hcl];omega
   refine grown ⟨t1.os.trans s1.os,t1.tape.trans s1.tape,t1.output.trans s1.output⟩ (t2.trans (s2.trans (Array.size_push _))) (fun x hx=>(t3 x (by omega)).trans ((s3 x (by omega)).trans (push_lt hx))) t4 hcap (by rw[t5,hsz];exact Nat.le_refl _) fun j hj=> ?_
   have hs7:∀{j},j<zs.length+xs.length→_:=fun{j} hj=>s6 j (by rw[←s5,hsz];omega)
   rw[Nat.zero_add,t6 _ (by rw[hsz];omega),List.length_drop,hcl]
   by_cases k:j<i
   ·rw[if_neg (by omega),hs7 hj,if_neg (by omega),if_pos k,Array.append_assoc,Array.getElem?_append_left (by simp[hcl];omega),List.getElem?_toArray,List.getElem?_take,if_pos k]
   ·rw[if_neg k]
    by_cases k2:j<i+xs.length
    ·rw[if_neg (by omega),hs7 hj,if_pos (by omega),if_pos k2]
    ·rw[if_pos (by omega),if_neg k2,List.getElem?_drop]
     congr 1;omega
def g53{R:Type}(G:ORC R)(k:Nat)(args:LV)(K:LV→OV R):OV R:=match args with
 | [.sl 1 l,.int .i64 i,.sl 1 m]=>bif decide (l.length≤1000000)&&decide (m.length≤1000000)&&decide (0<m.length)&&decide (0≤i)&&decide (i≤l.length)&&intsC l&&intsC m then K [.sl 1 (l.take i.toNat++m++l.drop i.toNat)]else none
 |_=>none
theorem s53{R:Type}{G:ORC R}{k:Nat}(hG:Sound Try.prog TAB G)(args:LV)(K:LV→OV R)(r:R)(h:g53 G k args K=some r):∃o,CallOK Try.prog TAB.env 53 args o∧K o=some r:=by
 unfold g53 at h
 split at h
 ·rename_i l i m
  cases hc:decide (l.length≤1000000)&&decide (m.length≤1000000)&&decide (0<m.length)&&decide (0≤i)&&decide (i≤l.length)&&intsC l&&intsC m with
  |false=>rw[hc]at h;cases h
  |true=>
   rw[hc]at h
   simp only[Bool.and_eq_true,decide_eq_true_eq]at hc
   obtain⟨⟨⟨⟨⟨⟨h1,h2⟩,h3⟩,h4⟩,h5⟩,h6⟩,h7⟩:=hc
   obtain⟨zs,rfl⟩:=intsC_ex h6
   obtain⟨xs,rfl⟩:=intsC_ex h7
   rw[List.length_map]at h1 h2 h3 h5
   have e:i=(i.toNat:Int):=by omega
   have:=ins_ok (zs:=zs) (xs:=xs) (i:=i.toNat) h1 h2 h3 (by omega)
   refine⟨_,?_,h⟩
   rw[←List.map_take,←List.map_drop,←List.map_append,←List.map_append]
   rw[←e]at this
   exact this
 ·cases h
def P54_0h:Pat:={tmps:=unds [pS 0,pI,pU,pU,pL] 27 (unds [pL,pI,pI] 53 []),boxes:=nons [some B21] 88 []}
def P54_0x:Pat:={tmps:=unds [pS 0,pI,pU,pU,pL] 83 [],boxes:=nons [some B21] 88 []}
def P54_2h:Pat:={tmps:=unds [pS 0,pI] 40 (unds [pL,pI,pI] 43 []),boxes:=nons [some B21] 88 []}
def P54_2x:Pat:={tmps:=unds [] 88 [],boxes:=nons [some B21] 88 []}
def b54_0{R:Type}(G:ORC R)(k:Nat)(X:Cu R J77)(Ko:Cu R J76)(a:Int)(b c:LV)(d e:Int)(f g h:LV)(i:Int):OV R:=
 (bif(decide (e<d))then(bif((decide (0≤e))&&(decide (e<(c.length:Int))))then(nthK c (Int.toNat e) fun l=>aI .i64 l fun l=>G 54 [.int .i64 l,.sl 7 f,.sl 1 g,.sl 1 h,.int .i64 i] fun l=>uL 1 l fun l m=>uI .i64 m fun m n=>unNil n (X a b c d (IntKind.i64.wrap (e+1)) f g l m))else none)else(Ko a b f g h i))
def l54_0g{R:Type}(G:ORC R)(k:Nat)(Ko:Cu R J76)(j:Nat):Cu R J77:=lup J77 (fun X=>b54_0 G k X Ko) j
def l54_0{R:Type}(G:ORC R)(k:Nat)(a:Int)(b c:LV)(d e:Int)(f g h:LV)(i:Int)(Ko:Cu R J76):OV R:=l54_0g G k Ko k a b c d e f g h i
def b54_2{R:Type}(G:ORC R)(k:Nat)(X:Cu R J78)(Ko:Cu R J35)(a:Int)(b:LV)(c d:Int)(e f g:LV)(h:Int):OV R:=
 (bif(decide (d<c))then(bif((decide (0≤d))&&(decide (d<(b.length:Int))))then(nthK b (Int.toNat d) fun i=>aI .i64 i fun i=>bif((decide (0≤a))&&(decide (a<(e.length:Int))))then(nthK e (Int.toNat a) fun l=>ca7 l fun l m n o l p n=>aI .i64 m fun l=>G 56 [.int .i64 i,.int .i64 l,.sl 7 e,.sl 1 f,.sl 1 g,.int .i64 h] fun i=>uL 1 i fun i l=>uI .i64 l fun l m=>unNil m (X a b c (IntKind.i64.wrap (d+1)) e f i l))else none)else none)else(Ko e f g h))
def l54_2g{R:Type}(G:ORC R)(k:Nat)(Ko:Cu R J35)(j:Nat):Cu R J78:=lup J78 (fun X=>b54_2 G k X Ko) j
def l54_2{R:Type}(G:ORC R)(k:Nat)(a:Int)(b:LV)(c d:Int)(e f g:LV)(h:Int)(Ko:Cu R J35):OV R:=l54_2g G k Ko k a b c d e f g h
def L54{R:Type}(G:ORC R)(k:Nat):Nat→St→(Ex→St→OV R)→OV R
 |0,S,K=>P54_0h.mat S fun vs=>uc J77 (l54_0g G k (koX J76 P54_0x K) k) vs none
 |2,S,K=>P54_2h.mat S fun vs=>uc J78 (l54_2g G k (koX J35 P54_2x K) k) vs none
 |_,_,_=>none
def f54{R:Type}(G:ORC R)(k:Nat)(a:Int)(b c d:LV)(e:Int)(K:LV→OV R):OV R:=
 (G 49 [.sl 7 b,.int .i64 a] fun f=>uB f fun f g=>unNil g (bif(!f)then(K [.sl 1 d,.int .i64 e])else(G 76 [.sl 7 b,.sl 1 c,.sl 1 d,.int .i64 e] fun d=>uB d fun d e=>uL 1 e fun e f=>uI .i64 f fun f g=>unNil g (bif(!d)then(K [.sl 1 e,.int .i64 f])else(bif((decide (0≤a))&&(decide (a<(b.length:Int))))then(nthK b (Int.toNat a) fun d=>V.asAgg d fun d=>G 48 [.agg d] fun d=>uB d fun d g=>unNil g (bif d then(G 55 [.int .i64 a,.sl 7 b,.sl 1 c,.sl 1 e,.int .i64 f] fun d=>uL 1 d fun d g=>uL 1 g fun g h=>uI .i64 h fun h i=>unNil i (l54_0 G k a d d (d.length:Int) 0 b c g h (fun d g h i l m=>l54_2 G k d g (g.length:Int) 0 h i l m (fun d g h i=>K [.sl 1 h,.int .i64 i]))))else(bif((decide (0≤a))&&(decide (a<(e.length:Int))))then(nthK e (Int.toNat a) fun d=>bif((decide (0≤a))&&(decide (a<(b.length:Int))))then(nthK b (Int.toNat a) fun d=>ca7 d fun d g h i l g h=>aI .i64 d fun d=>bif(d==2)then(bif((decide (0≤a))&&(decide (a<(b.length:Int))))then(nthK b (Int.toNat a) fun d=>ca7 d fun d g h i d g h=>aI .i64 i fun d=>G 54 [.int .i64 d,.sl 7 b,.sl 1 c,.sl 1 (List.set e (Int.toNat a) (.bool true)),.int .i64 f] fun d=>uL 1 d fun d g=>uI .i64 g fun g h=>unNil h (G 77 [.int .i64 a,.sl 7 b,.sl 1 c,.sl 1 d,.int .i64 g] fun d=>uL 1 d fun d g=>uI .i64 g fun g h=>unNil h (K [.sl 1 d,.int .i64 g])))else none)else(G 77 [.int .i64 a,.sl 7 b,.sl 1 c,.sl 1 (List.set e (Int.toNat a) (.bool true)),.int .i64 f] fun a=>uL 1 a fun a b=>uI .i64 b fun b c=>unNil c (K [.sl 1 a,.int .i64 b])))else none)else none)))else none)))))
abbrev g54 {R:Type} (G:ORC R) (k:Nat):LV→(LV→OV R)→OV R:=gF J79 (f54 G k)
theorem s54{R:Type}{G:ORC R}{k:Nat}(hG:Sound Try.prog TAB G):TL 54 (g54 G k):=
 gG J79 (by kernel_rfl) (callF_sound (L:=L54 G k) (f:=54) TAB_chk MO hG Try.func54 (sg:=S54) (by kernel_rfl) (by kernel_rfl) (las [0,2] (by kernel_rfl) ⟨loopIs J77 k (fun K X=>b54_0 G k X (koX J76 P54_0x K)) P54_0h P54_0x default (by kernel_rfl) (by kernel_rfl) (by kernel_rfl) (fun K X=>by kernel_rfl) (fun S K=>by kernel_rfl),loopIs J78 k (fun K X=>b54_2 G k X (koX J35 P54_2x K)) P54_2h P54_2x default (by kernel_rfl) (by kernel_rfl) (by kernel_rfl) (fun K X=>by kernel_rfl) (fun S K=>by kernel_rfl),trivial⟩))
def f55{R:Type}(G:ORC R)(k:Nat)(a:Int)(b c d:LV)(e:Int)(K:LV→OV R):OV R:=
 (bif((decide (0≤a))&&(decide (a<(b.length:Int))))then(nthK b (Int.toNat a) fun f=>V.asAgg f fun f=>G 48 [.agg f] fun f=>uB f fun f g=>unNil g (bif(!f)then(K [.sl 1 [.int .i64 a],.sl 1 d,.int .i64 e])else(bif(decide (a<(c.length:Int)))then(bif((decide (0≤a))&&(decide (a<(c.length:Int))))then(nthK c (Int.toNat a) fun f=>V.asSl f fun f g=>bif(decide ((g.length:Int)>0))then(bif((decide (0≤a))&&(decide (a<(c.length:Int))))then(nthK c (Int.toNat a) fun c=>V.asSl c fun c f=>K [.sl c f,.sl 1 d,.int .i64 e])else none)else(bif((decide (0≤a))&&(decide (a<(b.length:Int))))then(nthK b (Int.toNat a) fun c=>ca7 c fun c f g h c i g=>aI .i64 f fun c=>G 49 [.sl 7 b,.int .i64 c] fun f=>uB f fun f g=>unNil g (bif(!f)then(K [.sl 1 [],.sl 1 d,.int .i64 e])else(bif((decide (0≤c))&&(decide (c<(b.length:Int))))then(nthK b (Int.toNat c) fun f=>ca7 f fun f g h i l g h=>aI .i64 f fun f=>bif(f==2)then(bif((decide (0≤c))&&(decide (c<(b.length:Int))))then(nthK b (Int.toNat c) fun f=>ca7 f fun f g h i f g h=>aI .i64 i fun f=>K [.sl 1 [.int .i64 f],.sl 1 d,.int .i64 e])else none)else(G 78 [.sl 7 b,.int .i64 c] fun c=>uL 1 c fun c f=>unNil f (K [.sl 1 c,.sl 1 d,.int .i64 e])))else none)))else none))else none)else(bif((decide (0≤a))&&(decide (a<(b.length:Int))))then(nthK b (Int.toNat a) fun a=>ca7 a fun a c f g a h f=>aI .i64 c fun a=>G 49 [.sl 7 b,.int .i64 a] fun c=>uB c fun c f=>unNil f (bif(!c)then(K [.sl 1 [],.sl 1 d,.int .i64 e])else(bif((decide (0≤a))&&(decide (a<(b.length:Int))))then(nthK b (Int.toNat a) fun c=>ca7 c fun c f g h i f g=>aI .i64 c fun c=>bif(c==2)then(bif((decide (0≤a))&&(decide (a<(b.length:Int))))then(nthK b (Int.toNat a) fun c=>ca7 c fun c f g h c f g=>aI .i64 h fun c=>K [.sl 1 [.int .i64 c],.sl 1 d,.int .i64 e])else none)else(G 78 [.sl 7 b,.int .i64 a] fun a=>uL 1 a fun a b=>unNil b (K [.sl 1 a,.sl 1 d,.int .i64 e])))else none)))else none))))else none)
abbrev g55 {R:Type} (G:ORC R) (k:Nat):LV→(LV→OV R)→OV R:=gF J79 (f55 G k)
theorem s55{R:Type}{G:ORC R}{k:Nat}(hG:Sound Try.prog TAB G):TL 55 (g55 G k):=
 gG J79 (by kernel_rfl) (callF_sound (L:=fun _ _ _=>none) (f:=55) TAB_chk MO hG Try.func55 (sg:=S55) (by kernel_rfl) (by kernel_rfl) (las [] (by kernel_rfl) trivial))
def P56_0h:Pat:={tmps:=unds [pS 0,pI,pI,pU,pU,pU,pI] 44 [],boxes:=nons [some B21] 51 []}
def P56_0x:Pat:={tmps:=unds [] 51 [],boxes:=nons [some B21] 51 []}
def b56_0{R:Type}(G:ORC R)(k:Nat)(X:Cu R J80)(Ko:Cu R J35)(a b c:Int)(d e f:LV)(g:Int):OV R:=
 (bif(decide (c>b))then(G 49 [.sl 7 d,.int .i64 c] fun h=>uB h fun h i=>unNil i (bif h then(G 44 [.sl 7 d,.int .i64 a,.int .i64 c] fun h=>uB h fun h i=>unNil i (bif h then(G 44 [.sl 7 d,.int .i64 c,.int .i64 b] fun h=>uB h fun h i=>unNil i (bif h then(G 76 [.sl 7 d,.sl 1 e,.sl 1 f,.int .i64 g] fun h=>uB h fun h i=>uL 1 i fun i l=>uI .i64 l fun l m=>unNil m (bif h then(bif((decide (0≤c))&&(decide (c<(i.length:Int))))then(nthK i (Int.toNat c) fun h=>G 77 [.int .i64 c,.sl 7 d,.sl 1 e,.sl 1 (List.set i (Int.toNat c) (.bool true)),.int .i64 l] fun h=>uL 1 h fun h m=>uI .i64 m fun m n=>unNil n (X a b (IntKind.i64.wrap (c-1)) d e h m))else none)else(X a b (IntKind.i64.wrap (c-1)) d e i l)))else(X a b (IntKind.i64.wrap (c-1)) d e f g)))else(X a b (IntKind.i64.wrap (c-1)) d e f g)))else(X a b (IntKind.i64.wrap (c-1)) d e f g)))else(Ko d e f g))
def l56_0g{R:Type}(G:ORC R)(k:Nat)(Ko:Cu R J35)(j:Nat):Cu R J80:=lup J80 (fun X=>b56_0 G k X Ko) j
def l56_0{R:Type}(G:ORC R)(k:Nat)(a b c:Int)(d e f:LV)(g:Int)(Ko:Cu R J35):OV R:=l56_0g G k Ko k a b c d e f g
def L56{R:Type}(G:ORC R)(k:Nat):Nat→St→(Ex→St→OV R)→OV R
 |0,S,K=>P56_0h.mat S fun vs=>uc J80 (l56_0g G k (koX J35 P56_0x K) k) vs none
 |_,_,_=>none
def f56{R:Type}(G:ORC R)(k:Nat)(a b:Int)(c d e:LV)(f:Int)(K:LV→OV R):OV R:=
 (l56_0 G k a b (IntKind.i64.wrap (a-1)) c d e f (fun a b c d=>K [.sl 1 c,.int .i64 d]))
abbrev g56 {R:Type} (G:ORC R) (k:Nat):LV→(LV→OV R)→OV R:=gF J81 (f56 G k)
theorem s56{R:Type}{G:ORC R}{k:Nat}(hG:Sound Try.prog TAB G):TL 56 (g56 G k):=
 gG J81 (by kernel_rfl) (callF_sound (L:=L56 G k) (f:=56) TAB_chk MO hG Try.func56 (sg:=S56) (by kernel_rfl) (by kernel_rfl) (las [0] (by kernel_rfl) ⟨loopIs J80 k (fun K X=>b56_0 G k X (koX J35 P56_0x K)) P56_0h P56_0x default (by kernel_rfl) (by kernel_rfl) (by kernel_rfl) (fun K X=>by kernel_rfl) (fun S K=>by kernel_rfl),trivial⟩))
def P57_0h:Pat:={tmps:=unds [pU,pU,pU,.var (.sl 1) (.own true)] 5 (unds [.stat (.ref (.b 0 2) 0),pI,pI] 11 []),boxes:=nons [some B21] 23 []}
def P57_0x:Pat:={tmps:=unds [pU,pU,pU,.var (.sl 1) (.own true)] 19 [],boxes:=nons [some B21] 23 []}
def b57_0{R:Type}(G:ORC R)(k:Nat)(X:Cu R J83)(Ko:Cu R J82)(a:LV)(b c:Int)(d e f:LV)(g:Int):OV R:=
 (bif(decide (c<b))then(bif((decide (0≤c))&&(decide (c<(f.length:Int))))then(nthK f (Int.toNat c) fun h=>V.asBool h fun h=>bif h then(bif(decide (List.length a+1≤1073741824))then(X (a++[.int .i64 c]) b (IntKind.i64.wrap (c+1)) d e f g)else none)else(X a b (IntKind.i64.wrap (c+1)) d e f g))else none)else(Ko a d e f g))
def l57_0g{R:Type}(G:ORC R)(k:Nat)(Ko:Cu R J82)(j:Nat):Cu R J83:=lup J83 (fun X=>b57_0 G k X Ko) j
def l57_0{R:Type}(G:ORC R)(k:Nat)(a:LV)(b c:Int)(d e f:LV)(g:Int)(Ko:Cu R J82):OV R:=l57_0g G k Ko k a b c d e f g
def L57{R:Type}(G:ORC R)(k:Nat):Nat→St→(Ex→St→OV R)→OV R
 |0,S,K=>P57_0h.mat S fun vs=>uc J83 (l57_0g G k (koX J82 P57_0x K) k) vs none
 |_,_,_=>none
def f57{R:Type}(G:ORC R)(k:Nat)(a b c:LV)(d:Int)(K:LV→OV R):OV R:=
 (l57_0 G k [] (c.length:Int) 0 a b c d (fun a b c d e=>K [.sl 1 a,.sl 1 d,.int .i64 e]))
abbrev g57 {R:Type} (G:ORC R) (k:Nat):LV→(LV→OV R)→OV R:=gF J35 (f57 G k)
theorem s57{R:Type}{G:ORC R}{k:Nat}(hG:Sound Try.prog TAB G):TL 57 (g57 G k):=
 gG J35 (by kernel_rfl) (callF_sound (L:=L57 G k) (f:=57) TAB_chk MO hG Try.func57 (sg:=S57) (by kernel_rfl) (by kernel_rfl) (las [0] (by kernel_rfl) ⟨loopIs J83 k (fun K X=>b57_0 G k X (koX J82 P57_0x K)) P57_0h P57_0x default (by kernel_rfl) (by kernel_rfl) (by kernel_rfl) (fun K X=>by kernel_rfl) (fun S K=>by kernel_rfl),trivial⟩))
def f58{R:Type}(G:ORC R)(k:Nat)(a:LV)(K:LV→OV R):OV R:=
 (bif(((decide (0≤(a.length:Int)))&&(decide ((a.length:Int)≤(a.length:Int))))&&(decide ((a.length:Int)≤1073741824)))then(G 54 [.int .i64 0,.sl 7 a,.sl 1 [],.sl 1 (List.replicate (Int.toNat (a.length:Int)) (V.bool false)),.int .i64 65536] fun b=>uL 1 b fun b c=>uI .i64 c fun c d=>unNil d (G 57 [.sl 7 a,.sl 1 [],.sl 1 b,.int .i64 c] fun a=>uL 1 a fun a b=>uL 1 b fun b c=>uI .i64 c fun b c=>unNil c (K [.sl 1 a])))else none)
abbrev g58 {R:Type} (G:ORC R) (k:Nat):LV→(LV→OV R)→OV R:=gF J84 (f58 G k)
theorem s58{R:Type}{G:ORC R}{k:Nat}(hG:Sound Try.prog TAB G):TL 58 (g58 G k):=
 gG J84 (by kernel_rfl) (callF_sound (L:=fun _ _ _=>none) (f:=58) TAB_chk MO hG Try.func58 (sg:=S58) (by kernel_rfl) (by kernel_rfl) (las [] (by kernel_rfl) trivial))
def f59{R:Type}(G:ORC R)(k:Nat)(a b:LV)(a:Int)(c:ByteArray)(d e:Int)(f g h i f g h i f g:LV)(l m:Int)(n:Bool)(o:LV)(K:LV→OV R):OV R:=
 (bif(decide (List.length o+List.length b≤1073741824))then(K [.str c,.int .i64 d,.int .i64 e,.sl 1 h,.sl 1 i,.sl 1 f,.sl 4 g,.int .i64 (IntKind.i64.wrap (l+a)),.int .i64 m,.bool n,.sl 2 (o++b)])else none)
abbrev g59 {R:Type} (G:ORC R) (k:Nat):LV→(LV→OV R)→OV R:=gF J85 (f59 G k)
theorem s59{R:Type}{G:ORC R}{k:Nat}(hG:Sound Try.prog TAB G):TL 59 (g59 G k):=
 gG J85 (by kernel_rfl) (callF_sound (L:=fun _ _ _=>none) (f:=59) TAB_chk MO hG Try.func59 (sg:=S59) (by kernel_rfl) (by kernel_rfl) (las [] (by kernel_rfl) trivial))
def f60{R:Type}(G:ORC R)(k:Nat)(a:ByteArray)(b c:Int)(d e f g h i l m n:LV)(K:LV→OV R):OV R:=
 (G 16 [.str ⟨#[]⟩,.bool true,.str a,.int .i64 b,.int .i64 c,.sl 1 d,.sl 1 e,.sl 1 f,.sl 7 g,.sl 6 h,.sl 1 i,.sl 1 l,.sl 1 m,.sl 1 n,.int .i64 0,.mp [],.sl 1 [],.sl 2 [],.int .i64 0] fun a=>uA a fun a b=>uL 1 a fun a c=>uL 2 c fun c d=>uI .i64 d fun d e=>unNil e (uS b fun b e=>uI .i64 e fun b e=>uI .i64 e fun b e=>uI .i64 e fun b e=>unCons e fun b e=>unCons e fun b e=>unCons e fun b e=>uI .i64 e fun b e=>unNil e (K [.agg [.sl 1 a,.sl 2 c,.int .i64 d]])))
abbrev g60 {R:Type} (G:ORC R) (k:Nat):LV→(LV→OV R)→OV R:=gF J86 (f60 G k)
theorem s60{R:Type}{G:ORC R}{k:Nat}(hG:Sound Try.prog TAB G):TL 60 (g60 G k):=
 gG J86 (by kernel_rfl) (callF_sound (L:=fun _ _ _=>none) (f:=60) TAB_chk MO hG Try.func60 (sg:=S60) (by kernel_rfl) (by kernel_rfl) (las [] (by kernel_rfl) trivial))
def f61{R:Type}(G:ORC R)(k:Nat)(a:LV)(b:Int)(K:LV→OV R):OV R:=
 (bif(decide (b≥0))then(K [.bool (decide (b<(a.length:Int)))])else(K [.bool false]))
abbrev g61 {R:Type} (G:ORC R) (k:Nat):LV→(LV→OV R)→OV R:=gF J32 (f61 G k)
theorem s61{R:Type}{G:ORC R}{k:Nat}(hG:Sound Try.prog TAB G):TL 61 (g61 G k):=
 gG J32 (by kernel_rfl) (callF_sound (L:=fun _ _ _=>none) (f:=61) TAB_chk MO hG Try.func61 (sg:=S61) (by kernel_rfl) (by kernel_rfl) (las [] (by kernel_rfl) trivial))
def f62{R:Type}(G:ORC R)(k:Nat)(a:Int)(b:ByteArray)(c d:Int)(e f g h e f g h i:LV)(l:Int)(m:V)(n o:LV)(p:Int)(K:LV→OV R):OV R:=
 (bif((decide (0≤a))&&(decide (a<(e.length:Int))))then(nthK e (Int.toNat a) fun e=>ca6 e fun e q r s e q=>aI .i64 s fun e=>bif(decide (e<0))then(K [.bool true,.str b,.int .i64 c,.int .i64 d,.int .i64 l,m,.sl 1 n,.sl 2 o,.int .i64 p])else(bif(decide (e≥(f.length:Int)))then(K [.bool true,.str b,.int .i64 c,.int .i64 d,.int .i64 l,m,.sl 1 n,.sl 2 o,.int .i64 p])else(V.asMp m fun q=>bif(Option.isSome (mpGet q a))then(K [.bool (Option.getD (mpGet q a) false),.str b,.int .i64 c,.int .i64 d,.int .i64 l,m,.sl 1 n,.sl 2 o,.int .i64 p])else(bif((decide (0≤e))&&(decide (e<(f.length:Int))))then(nthK f (Int.toNat e) fun e=>V.asSl e fun e f=>G 50 [.sl e f,.agg [.sl 1 g,.sl 1 h,.sl 1 i],.int .i64 l,.int .i64 d] fun e=>uA e fun e f=>uI .i64 e fun e g=>uL 1 g fun g h=>uL 2 h fun g h=>uL 4 h fun g h=>uI .i64 h fun g h=>uI .i64 h fun h i=>unNil i (unNil f (bif(h !=0)then(bif(decide (List.length o+1≤1073741824))then(bif(h==0)then(V.asMp m fun f=>K [.bool (Option.getD (mpGet (mpPut f a (e !=0)) a) false),.str b,.int .i64 c,.int .i64 d,.int .i64 l,.mp (mpPut f a (e !=0)),.sl 1 n,.sl 2 (o++[.agg [.str ⟨#[101,114,114,111,114]⟩,.int .i64 h]]),.int .i64 (IntKind.i64.wrap (p+g))])else(V.asMp m fun f=>K [.bool (Option.getD (mpGet (mpPut f a false) a) false),.str b,.int .i64 c,.int .i64 d,.int .i64 l,.mp (mpPut f a false),.sl 1 n,.sl 2 (o++[.agg [.str ⟨#[101,114,114,111,114]⟩,.int .i64 h]]),.int .i64 (IntKind.i64.wrap (p+g))]))else none)else(bif(h==0)then(V.asMp m fun f=>K [.bool (Option.getD (mpGet (mpPut f a (e !=0)) a) false),.str b,.int .i64 c,.int .i64 d,.int .i64 l,.mp (mpPut f a (e !=0)),.sl 1 n,.sl 2 o,.int .i64 (IntKind.i64.wrap (p+g))])else(V.asMp m fun e=>K [.bool (Option.getD (mpGet (mpPut e a false) a) false),.str b,.int .i64 c,.int .i64 d,.int .i64 l,.mp (mpPut e a false),.sl 1 n,.sl 2 o,.int .i64 (IntKind.i64.wrap (p+g))])))))else none))))else none)
abbrev g62 {R:Type} (G:ORC R) (k:Nat):LV→(LV→OV R)→OV R:=gF J59 (f62 G k)
theorem s62{R:Type}{G:ORC R}{k:Nat}(hG:Sound Try.prog TAB G):TL 62 (g62 G k):=
 gG J59 (by kernel_rfl) (callF_sound (L:=fun _ _ _=>none) (f:=62) TAB_chk MO hG Try.func62 (sg:=S62) (by kernel_rfl) (by kernel_rfl) (las [] (by kernel_rfl) trivial))
def P63_0h:Pat:={tmps:=unds [pL,pI] 5 (unds [pI,pI] 10 []),boxes:=nons [] 19 []}
def P63_0x:Pat:={tmps:=unds [] 19 [],boxes:=nons [] 19 []}
def P63_0r:Pat:={tmps:=unds [pU,pU,pU,pU,pI] 14 [],boxes:=nons [] 19 []}
def b63_0{R:Type}(G:ORC R)(k:Nat)(X:Cu R J74)(Ko:Cu R J11)(Kr:Cu R J14)(a:LV)(b c d:Int):OV R:=
 (bif(decide (d<c))then(bif((decide (0≤d))&&(decide (d<(a.length:Int))))then(nthK a (Int.toNat d) fun e=>aI .i64 e fun e=>bif(b==e)then(Kr d)else(X a b c (IntKind.i64.wrap (d+1))))else none)else(Ko ()))
def l63_0g{R:Type}(G:ORC R)(k:Nat)(Ko:Cu R J11)(Kr:Cu R J14)(j:Nat):Cu R J74:=lup J74 (fun X=>b63_0 G k X Ko Kr) j
def l63_0{R:Type}(G:ORC R)(k:Nat)(a:LV)(b c d:Int)(Ko:Cu R J11)(Kr:Cu R J14):OV R:=l63_0g G k Ko Kr k a b c d
def L63{R:Type}(G:ORC R)(k:Nat):Nat→St→(Ex→St→OV R)→OV R
 |0,S,K=>P63_0h.mat S fun vs=>uc J74 (l63_0g G k (koX J11 P63_0x K) (koR J14 P63_0r K) k) vs none
 |_,_,_=>none
def f63{R:Type}(G:ORC R)(k:Nat)(a:LV)(b:Int)(K:LV→OV R):OV R:=
 (l63_0 G k a b (a.length:Int) 0 (fun(_:Unit)=>K [.int .i64 (-1)]) (fun a=>K [.int .i64 a]))
abbrev g63 {R:Type} (G:ORC R) (k:Nat):LV→(LV→OV R)→OV R:=gF J31 (f63 G k)
theorem s63{R:Type}{G:ORC R}{k:Nat}(hG:Sound Try.prog TAB G):TL 63 (g63 G k):=
 gG J31 (by kernel_rfl) (callF_sound (L:=L63 G k) (f:=63) TAB_chk MO hG Try.func63 (sg:=S63) (by kernel_rfl) (by kernel_rfl) (las [0] (by kernel_rfl) ⟨loopIs J74 k (fun K X=>b63_0 G k X (koX J11 P63_0x K) (koR J14 P63_0r K)) P63_0h P63_0x P63_0r (by kernel_rfl) (by kernel_rfl) (by kernel_rfl) (fun K X=>by kernel_rfl) (fun S K=>by kernel_rfl),trivial⟩))
def f64{R:Type}(G:ORC R)(k:Nat)(a:Int)(b:ByteArray)(c d:Int)(e f g h e f g i l:LV)(f:Int)(g i:V)(g:LV)(g i l m n o:Int)(p:ByteArray)(K:LV→OV R):OV R:=
 (bif((decide (0≤a))&&(decide (a<(e.length:Int))))then(nthK e (Int.toNat a) fun a=>V.asAgg a fun a=>G 65 [.sl 7 h,.agg [.int .i64 i,.int .i64 l,.int .i64 m,.int .i64 n,.int .i64 o,.str p],.agg a] fun a=>uB a fun a e=>unNil e (K [.bool a,.str b,.int .i64 c,.int .i64 d,.int .i64 f,.int .i64 g,.int .i64 i,.int .i64 l,.int .i64 m,.int .i64 n,.int .i64 o,.str p]))else none)
abbrev g64 {R:Type} (G:ORC R) (k:Nat):LV→(LV→OV R)→OV R:=gF J87 (f64 G k)
theorem s64{R:Type}{G:ORC R}{k:Nat}(hG:Sound Try.prog TAB G):TL 64 (g64 G k):=
 gG J87 (by kernel_rfl) (callF_sound (L:=fun _ _ _=>none) (f:=64) TAB_chk MO hG Try.func64 (sg:=S64) (by kernel_rfl) (by kernel_rfl) (las [] (by kernel_rfl) trivial))
def f65{R:Type}(G:ORC R)(k:Nat)(a:LV)(b c d e b:Int)(b:ByteArray)(b c e f b:Int)(b:ByteArray)(K:LV→OV R):OV R:=
 (bif(d !=(-1))then(bif(e !=(-1))then(G 66 [.sl 7 a,.int .i64 d,.int .i64 e] fun b=>uB b fun b c=>unNil c (bif b then(K [.bool true])else(G 66 [.sl 7 a,.int .i64 e,.int .i64 d] fun a=>uB a fun a b=>unNil b (K [.bool a]))))else(K [.bool false]))else(K [.bool false]))
abbrev g65 {R:Type} (G:ORC R) (k:Nat):LV→(LV→OV R)→OV R:=gF J88 (f65 G k)
theorem s65{R:Type}{G:ORC R}{k:Nat}(hG:Sound Try.prog TAB G):TL 65 (g65 G k):=
 gG J88 (by kernel_rfl) (callF_sound (L:=fun _ _ _=>none) (f:=65) TAB_chk MO hG Try.func65 (sg:=S65) (by kernel_rfl) (by kernel_rfl) (las [] (by kernel_rfl) trivial))
def f66{R:Type}(G:ORC R)(k:Nat)(a:LV)(b c:Int)(K:LV→OV R):OV R:=
 (G 61 [.sl 7 a,.int .i64 b] fun d=>uB d fun d e=>unNil e (bif d then(G 61 [.sl 7 a,.int .i64 c] fun d=>uB d fun d e=>unNil e (bif d then(bif(decide (b≥c))then(bif((decide (0≤c))&&(decide (c<(a.length:Int))))then(nthK a (Int.toNat c) fun a=>ca7 a fun a c d e a c f=>aI .i64 d fun a=>K [.bool (decide (b≤a))])else none)else(K [.bool false]))else(K [.bool false])))else(K [.bool false])))
abbrev g66 {R:Type} (G:ORC R) (k:Nat):LV→(LV→OV R)→OV R:=gF J68 (f66 G k)
theorem s66{R:Type}{G:ORC R}{k:Nat}(hG:Sound Try.prog TAB G):TL 66 (g66 G k):=
 gG J68 (by kernel_rfl) (callF_sound (L:=fun _ _ _=>none) (f:=66) TAB_chk MO hG Try.func66 (sg:=S66) (by kernel_rfl) (by kernel_rfl) (las [] (by kernel_rfl) trivial))
def P67_0h:Pat:={tmps:=unds [pL,pI,pI,pI,pU,pU,pU,pU,.var .bool .pr,.var .bool .pr] 124 [],boxes:=nons [] 134 []}
def P67_0r:Pat:={tmps:=unds [] 134 [],boxes:=nons [] 134 []}
abbrev c67_7 {R:Type} (G:ORC R) (k:Nat) (X:Cu R J89) (a:LV) (b c:Int) (d:LV) (e:Int):OV R:=
 (uI .i64 a fun a f=>uB f fun f g=>unNil g (bif(decide ((IntKind.i64.wrap (a-b))<(IntKind.i64.wrap (c-a))))then(G 67 [.sl 1 d,.int .i64 b,.int .i64 a,.int .i64 (IntKind.i64.wrap (e-1))] fun g=>unNil g (X d (IntKind.i64.wrap (a+1)) c (IntKind.i64.wrap (e-1)) (decide ((IntKind.i64.wrap (a-b))≥(IntKind.i64.wrap (Int.tdiv (IntKind.i64.wrap (c-b)) 8)))) f))else(G 67 [.sl 1 d,.int .i64 (IntKind.i64.wrap (a+1)),.int .i64 c,.int .i64 (IntKind.i64.wrap (e-1))] fun g=>unNil g (X d b a (IntKind.i64.wrap (e-1)) (decide ((IntKind.i64.wrap (c-a))≥(IntKind.i64.wrap (Int.tdiv (IntKind.i64.wrap (c-b)) 8)))) f))))
abbrev c67_4 {R:Type} (G:ORC R) (k:Nat) (X:Cu R J89) (a:LV) (b c d e:Int):OV R:=
 (G 86 [.sl 1 a,.int .i64 b,.int .i64 c,.int .i64 (IntKind.i64.wrap ((IntKind.i64.wrap (c-1))-(IntKind.i64.wrap (d-b))))] fun d=>c67_7 G k X d b c a e)
abbrev c67_0 {R:Type} (G:ORC R) (k:Nat) (X:Cu R J89) (a:Int) (b:LV) (c d e:Int) (f g:Bool):OV R:=
 (bif(decide (a>0))then(bif((decide (0≤(IntKind.i64.wrap (a-1))))&&(decide ((IntKind.i64.wrap (a-1))<(b.length:Int))))then(nthK b (Int.toNat (IntKind.i64.wrap (a-1))) fun h=>aI .i64 h fun h=>bif((decide (0≤(IntKind.i64.wrap ((IntKind.i64.wrap (c-1))-(IntKind.i64.wrap (d-a))))))&&(decide ((IntKind.i64.wrap ((IntKind.i64.wrap (c-1))-(IntKind.i64.wrap (d-a))))<(b.length:Int))))then(nthK b (Int.toNat (IntKind.i64.wrap ((IntKind.i64.wrap (c-1))-(IntKind.i64.wrap (d-a))))) fun i=>aI .i64 i fun i=>G 72 [.int .i64 h,.int .i64 i] fun h=>uB h fun h i=>unNil i (bif(!h)then(G 85 [.sl 1 b,.int .i64 a,.int .i64 c,.int .i64 (IntKind.i64.wrap ((IntKind.i64.wrap (c-1))-(IntKind.i64.wrap (d-a))))] fun h=>uI .i64 h fun h i=>unNil i (X b h c (IntKind.i64.wrap (e-1)) f g))else(c67_4 G k X b a c d e)))else none)else none)else(c67_4 G k X b a c d e))
abbrev c67_9 {R:Type} (G:ORC R) (k:Nat) (X:Cu R J89) (a:LV) (b c:Int) (d:LV) (e:Int):OV R:=
 (uI .i64 a fun a f=>uB f fun f g=>unNil g (bif(decide ((IntKind.i64.wrap (a-b))<(IntKind.i64.wrap (c-a))))then(G 67 [.sl 1 d,.int .i64 b,.int .i64 a,.int .i64 e] fun g=>unNil g (X d (IntKind.i64.wrap (a+1)) c e (decide ((IntKind.i64.wrap (a-b))≥(IntKind.i64.wrap (Int.tdiv (IntKind.i64.wrap (c-b)) 8)))) f))else(G 67 [.sl 1 d,.int .i64 (IntKind.i64.wrap (a+1)),.int .i64 c,.int .i64 e] fun g=>unNil g (X d b a e (decide ((IntKind.i64.wrap (c-a))≥(IntKind.i64.wrap (Int.tdiv (IntKind.i64.wrap (c-b)) 8)))) f))))
abbrev c67_6 {R:Type} (G:ORC R) (k:Nat) (X:Cu R J89) (a:LV) (b c d e:Int):OV R:=
 (G 86 [.sl 1 a,.int .i64 b,.int .i64 c,.int .i64 (IntKind.i64.wrap ((IntKind.i64.wrap (c-1))-(IntKind.i64.wrap (d-b))))] fun d=>c67_9 G k X d b c a e)
abbrev c67_1 {R:Type} (G:ORC R) (k:Nat) (X:Cu R J89) (a:Int) (b:LV) (c d e:Int) (f g:Bool):OV R:=
 (bif(decide (a>0))then(bif((decide (0≤(IntKind.i64.wrap (a-1))))&&(decide ((IntKind.i64.wrap (a-1))<(b.length:Int))))then(nthK b (Int.toNat (IntKind.i64.wrap (a-1))) fun h=>aI .i64 h fun h=>bif((decide (0≤(IntKind.i64.wrap ((IntKind.i64.wrap (c-1))-(IntKind.i64.wrap (d-a))))))&&(decide ((IntKind.i64.wrap ((IntKind.i64.wrap (c-1))-(IntKind.i64.wrap (d-a))))<(b.length:Int))))then(nthK b (Int.toNat (IntKind.i64.wrap ((IntKind.i64.wrap (c-1))-(IntKind.i64.wrap (d-a))))) fun i=>aI .i64 i fun i=>G 72 [.int .i64 h,.int .i64 i] fun h=>uB h fun h i=>unNil i (bif(!h)then(G 85 [.sl 1 b,.int .i64 a,.int .i64 c,.int .i64 (IntKind.i64.wrap ((IntKind.i64.wrap (c-1))-(IntKind.i64.wrap (d-a))))] fun h=>uI .i64 h fun h i=>unNil i (X b h c e f g))else(c67_6 G k X b a c d e)))else none)else none)else(c67_6 G k X b a c d e))
abbrev c67_5 {R:Type} (G:ORC R) (k:Nat) (X:Cu R J89) (a:LV) (b c d e:Int):OV R:=
 (G 86 [.sl 1 a,.int .i64 b,.int .i64 c,.int .i64 d] fun d=>c67_7 G k X d b c a e)
abbrev c67_2 {R:Type} (G:ORC R) (k:Nat) (X:Cu R J89) (a:Int) (b:LV) (c d e:Int) (f g:Bool):OV R:=
 (bif(decide (a>0))then(bif((decide (0≤(IntKind.i64.wrap (a-1))))&&(decide ((IntKind.i64.wrap (a-1))<(b.length:Int))))then(nthK b (Int.toNat (IntKind.i64.wrap (a-1))) fun h=>aI .i64 h fun h=>bif((decide (0≤c))&&(decide (c<(b.length:Int))))then(nthK b (Int.toNat c) fun i=>aI .i64 i fun i=>G 72 [.int .i64 h,.int .i64 i] fun h=>uB h fun h i=>unNil i (bif(!h)then(G 85 [.sl 1 b,.int .i64 a,.int .i64 d,.int .i64 c] fun h=>uI .i64 h fun h i=>unNil i (X b h d (IntKind.i64.wrap (e-1)) f g))else(c67_5 G k X b a d c e)))else none)else none)else(c67_5 G k X b a d c e))
abbrev c67_8 {R:Type} (G:ORC R) (k:Nat) (X:Cu R J89) (a:LV) (b c d e:Int):OV R:=
 (G 86 [.sl 1 a,.int .i64 b,.int .i64 c,.int .i64 d] fun d=>c67_9 G k X d b c a e)
abbrev c67_3 {R:Type} (G:ORC R) (k:Nat) (X:Cu R J89) (a:Int) (b:LV) (c d e:Int) (f g:Bool):OV R:=
 (bif(decide (a>0))then(bif((decide (0≤(IntKind.i64.wrap (a-1))))&&(decide ((IntKind.i64.wrap (a-1))<(b.length:Int))))then(nthK b (Int.toNat (IntKind.i64.wrap (a-1))) fun h=>aI .i64 h fun h=>bif((decide (0≤c))&&(decide (c<(b.length:Int))))then(nthK b (Int.toNat c) fun i=>aI .i64 i fun i=>G 72 [.int .i64 h,.int .i64 i] fun h=>uB h fun h i=>unNil i (bif(!h)then(G 85 [.sl 1 b,.int .i64 a,.int .i64 d,.int .i64 c] fun h=>uI .i64 h fun h i=>unNil i (X b h d e f g))else(c67_8 G k X b a d c e)))else none)else none)else(c67_8 G k X b a d c e))
def b67_0{R:Type}(G:ORC R)(k:Nat)(X:Cu R J89)(Kr:Cu R J11)(a:LV)(b c d:Int)(e f:Bool):OV R:=
 (bif(decide ((IntKind.i64.wrap (c-b))≤12))then(G 79 [.sl 1 a,.int .i64 b,.int .i64 c] fun g=>unNil g (Kr ()))else(bif(d==0)then(G 80 [.sl 1 a,.int .i64 b,.int .i64 c] fun g=>unNil g (Kr ()))else(bif(!e)then(G 81 [.sl 1 a,.int .i64 b,.int .i64 c] fun g=>unNil g (G 82 [.sl 1 a,.int .i64 b,.int .i64 c] fun g=>uI .i64 g fun g h=>uI .i64 h fun h i=>unNil i (bif(h==2)then(G 83 [.sl 1 a,.int .i64 b,.int .i64 c] fun i=>unNil i (bif e then(bif f then(G 84 [.sl 1 a,.int .i64 b,.int .i64 c] fun i=>uB i fun i l=>unNil l (bif i then(Kr ())else(c67_0 G k X b a c g d e f)))else(c67_0 G k X b a c g d e f))else(c67_0 G k X b a c g d e f)))else(bif e then(bif f then(bif(h==1)then(G 84 [.sl 1 a,.int .i64 b,.int .i64 c] fun h=>uB h fun h i=>unNil i (bif h then(Kr ())else(c67_2 G k X b a g c d e f)))else(c67_2 G k X b a g c d e f))else(c67_2 G k X b a g c d e f))else(c67_2 G k X b a g c d e f)))))else(G 82 [.sl 1 a,.int .i64 b,.int .i64 c] fun g=>uI .i64 g fun g h=>uI .i64 h fun h i=>unNil i (bif(h==2)then(G 83 [.sl 1 a,.int .i64 b,.int .i64 c] fun i=>unNil i (bif e then(bif f then(G 84 [.sl 1 a,.int .i64 b,.int .i64 c] fun i=>uB i fun i l=>unNil l (bif i then(Kr ())else(c67_1 G k X b a c g d e f)))else(c67_1 G k X b a c g d e f))else(c67_1 G k X b a c g d e f)))else(bif e then(bif f then(bif(h==1)then(G 84 [.sl 1 a,.int .i64 b,.int .i64 c] fun h=>uB h fun h i=>unNil i (bif h then(Kr ())else(c67_3 G k X b a g c d e f)))else(c67_3 G k X b a g c d e f))else(c67_3 G k X b a g c d e f))else(c67_3 G k X b a g c d e f)))))))
def l67_0g{R:Type}(G:ORC R)(k:Nat)(Kr:Cu R J11)(j:Nat):Cu R J89:=lup J89 (fun X=>b67_0 G k X Kr) j
def l67_0{R:Type}(G:ORC R)(k:Nat)(a:LV)(b c d:Int)(e f:Bool)(Kr:Cu R J11):OV R:=l67_0g G k Kr k a b c d e f
def L67{R:Type}(G:ORC R)(k:Nat):Nat→St→(Ex→St→OV R)→OV R
 |0,S,K=>P67_0h.mat S fun vs=>uc J89 (l67_0g G k (koR J11 P67_0r K) k) vs none
 |_,_,_=>none
def f67{R:Type}(G:ORC R)(k:Nat)(a:LV)(b c d:Int)(K:LV→OV R):OV R:=
 (l67_0 G k a b c d true true (fun(_:Unit)=>K []))
abbrev g67 {R:Type} (G:ORC R) (k:Nat):LV→(LV→OV R)→OV R:=gF J74 (f67 G k)
theorem s67{R:Type}{G:ORC R}{k:Nat}(hG:Sound Try.prog TAB G):TL 67 (g67 G k):=
 gG J74 (by kernel_rfl) (callF_sound (L:=L67 G k) (f:=67) TAB_chk MO hG Try.func67 (sg:=S67) (by kernel_rfl) (by kernel_rfl) (las [0] (by kernel_rfl) ⟨loopIs J89 k (fun K X=>b67_0 G k X (koR J11 P67_0r K)) P67_0h default P67_0r (by kernel_rfl) (by kernel_rfl) (by kernel_rfl) (fun K X=>by kernel_rfl) (fun S K=>by kernel_rfl),trivial⟩))
def f68{R:Type}(G:ORC R)(k:Nat)(a:Int)(K:LV→OV R):OV R:=
 (G 88 [.int .u64 a] fun a=>uI .i64 a fun a b=>unNil b (K [.int .i64 a]))
abbrev g68 {R:Type} (G:ORC R) (k:Nat):LV→(LV→OV R)→OV R:=gF J90 (f68 G k)
theorem s68{R:Type}{G:ORC R}{k:Nat}(hG:Sound Try.prog TAB G):TL 68 (g68 G k):=
 gG J90 (by kernel_rfl) (callF_sound (L:=fun _ _ _=>none) (f:=68) TAB_chk MO hG Try.func68 (sg:=S68) (by kernel_rfl) (by kernel_rfl) (las [] (by kernel_rfl) trivial))
def P69_0h:Pat:={tmps:=unds [pU,pU,pS 2,pS 3,pU,pU,pL,pI,pI] 8 [],boxes:=nons [none,none,some B22,some B22] 13 []}
def P69_0x:Pat:={tmps:=unds [pU,pU,pS 2,pS 3] 13 [],boxes:=nons [none,none,some B22,some B22] 13 []}
def b69_0{R:Type}(G:ORC R)(k:Nat)(X:Cu R J92)(Ko:Cu R J91)(a:LV)(b c d e f g:Int):OV R:=
 (bif(decide (c<b))then(bif((decide (0≤c))&&(decide (c<(a.length:Int))))then(nthK a (Int.toNat c) fun h=>aI .i64 h fun h=>G 89 [.agg [.int .u64 f,.int .u64 g],.int .i64 h] fun h=>uA h fun h i=>uI .u64 h fun h l=>uI .u64 l fun l m=>unNil m (unNil i (X a b (IntKind.i64.wrap (c+1)) d e h l)))else none)else(Ko d e f g))
def l69_0g{R:Type}(G:ORC R)(k:Nat)(Ko:Cu R J91)(j:Nat):Cu R J92:=lup J92 (fun X=>b69_0 G k X Ko) j
def l69_0{R:Type}(G:ORC R)(k:Nat)(a:LV)(b c d e f g:Int)(Ko:Cu R J91):OV R:=l69_0g G k Ko k a b c d e f g
def L69{R:Type}(G:ORC R)(k:Nat):Nat→St→(Ex→St→OV R)→OV R
 |0,S,K=>P69_0h.mat S fun vs=>uc J92 (l69_0g G k (koX J91 P69_0x K) k) vs none
 |_,_,_=>none
def f69{R:Type}(G:ORC R)(k:Nat)(a:LV)(K:LV→OV R):OV R:=
 (l69_0 G k a (a.length:Int) 0 0 0 0 0 (fun a b c d=>K [.agg [.int .u64 c,.int .u64 d]]))
abbrev g69 {R:Type} (G:ORC R) (k:Nat):LV→(LV→OV R)→OV R:=gF J34 (f69 G k)
theorem s69{R:Type}{G:ORC R}{k:Nat}(hG:Sound Try.prog TAB G):TL 69 (g69 G k):=
 gG J34 (by kernel_rfl) (callF_sound (L:=L69 G k) (f:=69) TAB_chk MO hG Try.func69 (sg:=S69) (by kernel_rfl) (by kernel_rfl) (las [0] (by kernel_rfl) ⟨loopIs J92 k (fun K X=>b69_0 G k X (koX J91 P69_0x K)) P69_0h P69_0x default (by kernel_rfl) (by kernel_rfl) (by kernel_rfl) (fun K X=>by kernel_rfl) (fun S K=>by kernel_rfl),trivial⟩))
abbrev c71_7 {R:Type} (G:ORC R) (k:Nat) (K:LV→OV R) (a:LV):OV R:=
 (uI .u64 a fun a b=>uI .u64 b fun b c=>uI .i64 c fun c d=>uL 1 d fun d e=>uL 1 e fun e f=>uI .i64 f fun f g=>uI .i64 g fun g h=>uL 1 h fun h i=>uL 2 i fun i l=>uL 4 l fun l m=>uI .i64 m fun m n=>uI .i64 n fun n o=>unNil o (K [.bool false,.int .i64 0,.int .u64 a,.int .u64 b,.int .i64 c,.sl 1 d,.sl 1 e,.int .i64 f,.int .i64 g,.sl 1 h,.sl 2 i,.sl 4 l,.int .i64 m,.int .i64 n]))
abbrev c71_4 {R:Type} (G:ORC R) (k:Nat) (K:LV→OV R) (a b c:Int) (d:ByteArray) (e:LV) (f g h:Int) (i l:LV) (m n:Int) (o p q:LV) (r s:Int):OV R:=
 (G 97 [.agg [.int .i64 a,.int .i64 b,.int .i64 c,.str d],.sl 4 e,.int .u64 f,.int .u64 g,.int .i64 h,.sl 1 i,.sl 1 l,.int .i64 (IntKind.i64.wrap (m+1)),.int .i64 n,.sl 1 o,.sl 2 p,.sl 4 q,.int .i64 r,.int .i64 s] fun a=>c71_7 G k K a)
abbrev c71_5 {R:Type} (G:ORC R) (k:Nat) (K:LV→OV R) (a:Int) (b:LV) (c d e:Int) (f g:LV) (h i:Int) (l m n:LV) (o p:Int):OV R:=
 (G 90 [.int .i64 a,.sl 4 b,.int .u64 c,.int .u64 d,.int .i64 e,.sl 1 f,.sl 1 g,.int .i64 h,.int .i64 i,.sl 1 l,.sl 2 m,.sl 4 n,.int .i64 o,.int .i64 p] fun a=>c71_7 G k K a)
abbrev c71_3 {R:Type} (G:ORC R) (k:Nat) (K:LV→OV R) (a:LV) (b c d:Int) (e f:LV) (g h:Int) (i l m:LV) (n o:Int) (p:LV):OV R:=
 (uB a fun a q=>uI .i64 q fun q r=>uI .i64 r fun r s=>unNil s (bif a then(K [.bool true,.int .i64 q,.int .u64 b,.int .u64 c,.int .i64 d,.sl 1 e,.sl 1 f,.int .i64 g,.int .i64 h,.sl 1 i,.sl 2 l,.sl 4 m,.int .i64 n,.int .i64 o])else(c71_5 G k K r p b c d e f g h i l m n o)))
abbrev c71_1 {R:Type} (G:ORC R) (k:Nat) (K:LV→OV R) (a:LV) (b c d:Int) (e f:LV) (g h:Int) (i l m:LV) (n o p:Int):OV R:=
 (G 95 [.sl 4 a,.int .u64 b,.int .u64 c,.int .i64 d,.sl 1 e,.sl 1 f,.int .i64 (IntKind.i64.wrap (g+1)),.int .i64 h,.sl 1 i,.sl 2 l,.sl 4 m,.int .i64 n,.int .i64 o] fun b=>uI .i64 b fun b c=>uI .u64 c fun c d=>uI .u64 d fun d e=>uI .i64 e fun e f=>uL 1 f fun f g=>uL 1 g fun g h=>uI .i64 h fun h i=>uI .i64 i fun i l=>uL 1 l fun l m=>uL 2 m fun m n=>uL 4 n fun n o=>uI .i64 o fun o q=>uI .i64 q fun q r=>unNil r (G 95 [.sl 4 a,.int .u64 c,.int .u64 d,.int .i64 e,.sl 1 f,.sl 1 g,.int .i64 h,.int .i64 i,.sl 1 l,.sl 2 m,.sl 4 n,.int .i64 o,.int .i64 q] fun c=>uI .i64 c fun c d=>uI .u64 d fun d e=>uI .u64 e fun e f=>uI .i64 f fun f g=>uL 1 g fun g h=>uL 1 h fun h i=>uI .i64 i fun i l=>uI .i64 l fun l m=>uL 1 m fun m n=>uL 2 n fun n o=>uL 4 o fun o q=>uI .i64 q fun q r=>uI .i64 r fun r s=>unNil s (G 98 [.int .i64 p,.int .i64 c,.int .i64 b] fun b=>c71_3 G k K b d e f g h i l m n o q r a)))
abbrev c71_0 {R:Type} (G:ORC R) (k:Nat) (K:LV→OV R) (a b c:Int) (d:ByteArray) (e:LV) (f g h:Int) (i l:LV) (m n:Int) (o p q:LV) (r s:Int):OV R:=
 (bif(a==23)then(bif(a==23)then(c71_4 G k K a b c d e f g h i l m n o p q r s)else(c71_1 G k K e f g h i l m n o p q r s a))else(bif(a==24)then(bif(a==24)then(c71_4 G k K a b c d e f g h i l m n o p q r s)else(c71_1 G k K e f g h i l m n o p q r s a))else(bif(a==25)then(bif(a==25)then(c71_4 G k K a b c d e f g h i l m n o p q r s)else(c71_1 G k K e f g h i l m n o p q r s a))else(bif(a==26)then(c71_4 G k K a b c d e f g h i l m n o p q r s)else(c71_1 G k K e f g h i l m n o p q r s a)))))
abbrev c71_2 {R:Type} (G:ORC R) (k:Nat) (K:LV→OV R) (a b c:Int) (d:ByteArray) (e:LV) (f g h:Int) (i l:LV) (m n:Int) (o p q:LV) (r s:Int):OV R:=
 (G 96 [.agg [.int .i64 a,.int .i64 b,.int .i64 c,.str d],.sl 4 e,.int .u64 f,.int .u64 g,.int .i64 h,.sl 1 i,.sl 1 l,.int .i64 (IntKind.i64.wrap (m+1)),.int .i64 n,.sl 1 o,.sl 2 p,.sl 4 q,.int .i64 r,.int .i64 s] fun a=>uB a fun a b=>uI .i64 b fun b c=>uI .u64 c fun c d=>uI .u64 d fun d e=>uI .i64 e fun e f=>uL 1 f fun f g=>uL 1 g fun g h=>uI .i64 h fun h i=>uI .i64 i fun i l=>uL 1 l fun l m=>uL 2 m fun m n=>uL 4 n fun n o=>uI .i64 o fun o p=>uI .i64 p fun p q=>unNil q (bif a then(K [.bool true,.int .i64 b,.int .u64 c,.int .u64 d,.int .i64 e,.sl 1 f,.sl 1 g,.int .i64 h,.int .i64 i,.sl 1 l,.sl 2 m,.sl 4 n,.int .i64 o,.int .i64 p])else(K [.bool false,.int .i64 0,.int .u64 c,.int .u64 d,.int .i64 e,.sl 1 f,.sl 1 g,.int .i64 h,.int .i64 i,.sl 1 l,.sl 2 m,.sl 4 n,.int .i64 o,.int .i64 p])))
abbrev c71_6 {R:Type} (G:ORC R) (k:Nat) (K:LV→OV R) (a:Int) (b:LV) (c d e:Int) (f g:LV) (h i:Int) (l m n:LV) (o p:Int):OV R:=
 (G 90 [.int .i64 a,.sl 4 b,.int .u64 c,.int .u64 d,.int .i64 e,.sl 1 f,.sl 1 g,.int .i64 (IntKind.i64.wrap (h+1)),.int .i64 i,.sl 1 l,.sl 2 m,.sl 4 n,.int .i64 o,.int .i64 p] fun a=>c71_7 G k K a)
def f71{R:Type}(G:ORC R)(k:Nat)(a b c:Int)(d:ByteArray)(e:LV)(f g h:Int)(i l:LV)(m n:Int)(o p q:LV)(r s:Int)(K:LV→OV R):OV R:=
 (bif(a==1)then(c71_6 G k K c e f g h i l m n o p q r s)else(bif(a==2)then(bif((decide (0≤b))&&(decide (b<(o.length:Int))))then(nthK o (Int.toNat b) fun t=>aI .i64 t fun t=>c71_6 G k K t e f g h i l m n o p q r s)else none)else(bif(a==3)then(G 90 [.int .i64 h,.sl 4 e,.int .u64 f,.int .u64 g,.int .i64 h,.sl 1 i,.sl 1 l,.int .i64 (IntKind.i64.wrap (m+1)),.int .i64 n,.sl 1 o,.sl 2 p,.sl 4 q,.int .i64 r,.int .i64 s] fun t=>c71_7 G k K t)else(bif(a==4)then(G 92 [.agg [.int .u64 f,.int .u64 g],.int .i64 b] fun t=>uB t fun t u=>unNil u (G 91 [.bool t] fun t=>uI .i64 t fun t u=>unNil u (c71_6 G k K t e f g h i l m n o p q r s)))else(bif(a==5)then(G 95 [.sl 4 e,.int .u64 f,.int .u64 g,.int .i64 h,.sl 1 i,.sl 1 l,.int .i64 (IntKind.i64.wrap (m+1)),.int .i64 n,.sl 1 o,.sl 2 p,.sl 4 q,.int .i64 r,.int .i64 s] fun t=>uI .i64 t fun t u=>uI .u64 u fun u v=>uI .u64 v fun v w=>uI .i64 w fun w x=>uL 1 x fun x y=>uL 1 y fun y z=>uI .i64 z fun z A=>uI .i64 A fun A B=>uL 1 B fun B C=>uL 2 C fun C D=>uL 4 D fun D E=>uI .i64 E fun E F=>uI .i64 F fun F H=>unNil H (G 94 [.int .i64 t] fun t=>uI .i64 t fun t H=>uI .i64 H fun H I=>unNil I (G 93 [.int .i64 t,.int .i64 H] fun t=>c71_3 G k K t u v w x y z A B C D E F e)))else(bif(a==6)then(G 95 [.sl 4 e,.int .u64 f,.int .u64 g,.int .i64 h,.sl 1 i,.sl 1 l,.int .i64 (IntKind.i64.wrap (m+1)),.int .i64 n,.sl 1 o,.sl 2 p,.sl 4 q,.int .i64 r,.int .i64 s] fun t=>uI .i64 t fun t u=>uI .u64 u fun u v=>uI .u64 v fun v w=>uI .i64 w fun w x=>uL 1 x fun x y=>uL 1 y fun y z=>uI .i64 z fun z A=>uI .i64 A fun A B=>uL 1 B fun B C=>uL 2 C fun C D=>uL 4 D fun D E=>uI .i64 E fun E F=>uI .i64 F fun F H=>unNil H (G 91 [.bool (t==0)] fun t=>uI .i64 t fun t H=>unNil H (c71_5 G k K t e u v w x y z A B C D E F)))else(bif(a==18)then(G 95 [.sl 4 e,.int .u64 f,.int .u64 g,.int .i64 h,.sl 1 i,.sl 1 l,.int .i64 (IntKind.i64.wrap (m+1)),.int .i64 n,.sl 1 o,.sl 2 p,.sl 4 q,.int .i64 r,.int .i64 s] fun t=>uI .i64 t fun t u=>uI .u64 u fun u v=>uI .u64 v fun v w=>uI .i64 w fun w x=>uL 1 x fun x y=>uL 1 y fun y z=>uI .i64 z fun z A=>uI .i64 A fun A B=>uL 1 B fun B C=>uL 2 C fun C D=>uL 4 D fun D E=>uI .i64 E fun E F=>uI .i64 F fun F H=>unNil H (bif((decide (0≤b))&&(decide (b<(B.length:Int))))then(nthK B (Int.toNat b) fun H=>K [.bool false,.int .i64 0,.int .u64 u,.int .u64 v,.int .i64 w,.sl 1 x,.sl 1 y,.int .i64 z,.int .i64 A,.sl 1 (List.set B (Int.toNat b) (.int .i64 t)),.sl 2 C,.sl 4 D,.int .i64 E,.int .i64 F])else none))else(bif(a==19)then(bif(a==19)then(c71_2 G k K a b c d e f g h i l m n o p q r s)else(c71_0 G k K a b c d e f g h i l m n o p q r s))else(bif(a==20)then(bif(a==20)then(c71_2 G k K a b c d e f g h i l m n o p q r s)else(c71_0 G k K a b c d e f g h i l m n o p q r s))else(bif(a==21)then(bif(a==21)then(c71_2 G k K a b c d e f g h i l m n o p q r s)else(c71_0 G k K a b c d e f g h i l m n o p q r s))else(bif(a==22)then(c71_2 G k K a b c d e f g h i l m n o p q r s)else(c71_0 G k K a b c d e f g h i l m n o p q r s))))))))))))
abbrev g71 {R:Type} (G:ORC R) (k:Nat):LV→(LV→OV R)→OV R:=gF J93 (f71 G k)
theorem s71{R:Type}{G:ORC R}{k:Nat}(hG:Sound Try.prog TAB G):TL 71 (g71 G k):=
 gG J93 (by kernel_rfl) (callF_sound (L:=fun _ _ _=>none) (f:=71) TAB_chk MO hG Try.func71 (sg:=S71) (by kernel_rfl) (by kernel_rfl) (las [] (by kernel_rfl) trivial))
def f72{R:Type}(G:ORC R)(k:Nat)(a b:Int)(K:LV→OV R):OV R:=
 (G 99 [.int .i64 a] fun c=>uB c fun c d=>unNil d (bif c then(G 99 [.int .i64 b] fun c=>uB c fun c d=>unNil d (bif(!c)then(K [.bool true])else(K [.bool (decide (a<b))])))else(K [.bool (decide (a<b))])))
abbrev g72 {R:Type} (G:ORC R) (k:Nat):LV→(LV→OV R)→OV R:=gF J45 (f72 G k)
theorem s72{R:Type}{G:ORC R}{k:Nat}(hG:Sound Try.prog TAB G):TL 72 (g72 G k):=
 gG J45 (by kernel_rfl) (callF_sound (L:=fun _ _ _=>none) (f:=72) TAB_chk MO hG Try.func72 (sg:=S72) (by kernel_rfl) (by kernel_rfl) (las [] (by kernel_rfl) trivial))
def f73{R:Type}(G:ORC R)(k:Nat)(a:Int)(K:LV→OV R):OV R:=
 (K [.bool (a !=a)])
abbrev g73 {R:Type} (G:ORC R) (k:Nat):LV→(LV→OV R)→OV R:=gF J14 (f73 G k)
theorem s73{R:Type}{G:ORC R}{k:Nat}(hG:Sound Try.prog TAB G):TL 73 (g73 G k):=
 gG J14 (by kernel_rfl) (callF_sound (L:=fun _ _ _=>none) (f:=73) TAB_chk MO hG Try.func73 (sg:=S73) (by kernel_rfl) (by kernel_rfl) (las [] (by kernel_rfl) trivial))
def f76{R:Type}(G:ORC R)(k:Nat)(a b c:LV)(a:Int)(K:LV→OV R):OV R:=
 (K [.bool (decide ((IntKind.i64.wrap (a-1))≥0)),.sl 1 c,.int .i64 (IntKind.i64.wrap (a-1))])
abbrev g76 {R:Type} (G:ORC R) (k:Nat):LV→(LV→OV R)→OV R:=gF J35 (f76 G k)
theorem s76{R:Type}{G:ORC R}{k:Nat}(hG:Sound Try.prog TAB G):TL 76 (g76 G k):=
 gG J35 (by kernel_rfl) (callF_sound (L:=fun _ _ _=>none) (f:=76) TAB_chk MO hG Try.func76 (sg:=S76) (by kernel_rfl) (by kernel_rfl) (las [] (by kernel_rfl) trivial))
def P77_0h:Pat:={tmps:=unds [pS 0] 19 (unds [pL,pI,pI] 10 []),boxes:=nons [some B21] 33 []}
def P77_0x:Pat:={tmps:=unds [] 33 [],boxes:=nons [some B21] 33 []}
def b77_0{R:Type}(G:ORC R)(k:Nat)(X:Cu R J83)(Ko:Cu R J35)(a:LV)(b c:Int)(d e f:LV)(g:Int):OV R:=
 (bif(decide (c<b))then(bif((decide (0≤c))&&(decide (c<(a.length:Int))))then(nthK a (Int.toNat c) fun h=>aI .i64 h fun h=>G 101 [.int .i64 h,.sl 7 d,.sl 1 e,.sl 1 f,.int .i64 g] fun i=>uB i fun i l=>uL 1 l fun l m=>uI .i64 m fun m n=>unNil n (bif i then(G 54 [.int .i64 h,.sl 7 d,.sl 1 e,.sl 1 l,.int .i64 m] fun h=>uL 1 h fun h i=>uI .i64 i fun i n=>unNil n (X a b (IntKind.i64.wrap (c+1)) d e h i))else(X a b (IntKind.i64.wrap (c+1)) d e l m)))else none)else(Ko d e f g))
def l77_0g{R:Type}(G:ORC R)(k:Nat)(Ko:Cu R J35)(j:Nat):Cu R J83:=lup J83 (fun X=>b77_0 G k X Ko) j
def l77_0{R:Type}(G:ORC R)(k:Nat)(a:LV)(b c:Int)(d e f:LV)(g:Int)(Ko:Cu R J35):OV R:=l77_0g G k Ko k a b c d e f g
def L77{R:Type}(G:ORC R)(k:Nat):Nat→St→(Ex→St→OV R)→OV R
 |0,S,K=>P77_0h.mat S fun vs=>uc J83 (l77_0g G k (koX J35 P77_0x K) k) vs none
 |_,_,_=>none
def f77{R:Type}(G:ORC R)(k:Nat)(a:Int)(b c d:LV)(e:Int)(K:LV→OV R):OV R:=
 (bif((decide (0≤a))&&(decide (a<(b.length:Int))))then(nthK b (Int.toNat a) fun f=>ca7 f fun f g h i l g h=>aI .i64 f fun f=>bif(f !=3)then(K [.sl 1 d,.int .i64 e])else(G 78 [.sl 7 b,.int .i64 a] fun a=>uL 1 a fun a f=>unNil f (l77_0 G k a (a.length:Int) 0 b c d e (fun a b c d=>K [.sl 1 c,.int .i64 d]))))else none)
abbrev g77 {R:Type} (G:ORC R) (k:Nat):LV→(LV→OV R)→OV R:=gF J79 (f77 G k)
theorem s77{R:Type}{G:ORC R}{k:Nat}(hG:Sound Try.prog TAB G):TL 77 (g77 G k):=
 gG J79 (by kernel_rfl) (callF_sound (L:=L77 G k) (f:=77) TAB_chk MO hG Try.func77 (sg:=S77) (by kernel_rfl) (by kernel_rfl) (las [0] (by kernel_rfl) ⟨loopIs J83 k (fun K X=>b77_0 G k X (koX J35 P77_0x K)) P77_0h P77_0x default (by kernel_rfl) (by kernel_rfl) (by kernel_rfl) (fun K X=>by kernel_rfl) (fun S K=>by kernel_rfl),trivial⟩))
def f78{R:Type}(G:ORC R)(k:Nat)(a:LV)(b:Int)(K:LV→OV R):OV R:=
 (G 102 [.sl 7 a,.int .i64 b] fun b=>uL 1 b fun b c=>unNil c (G 196634 [.sl 1 b,.sl 7 a] fun a=>uL 1 a fun a b=>unNil b (K [.sl 1 a])))
abbrev g78 {R:Type} (G:ORC R) (k:Nat):LV→(LV→OV R)→OV R:=gF J32 (f78 G k)
theorem s78{R:Type}{G:ORC R}{k:Nat}(hG:Sound Try.prog TAB G):TL 78 (g78 G k):=
 gG J32 (by kernel_rfl) (callF_sound (L:=fun _ _ _=>none) (f:=78) TAB_chk MO hG Try.func78 (sg:=S78) (by kernel_rfl) (by kernel_rfl) (las [] (by kernel_rfl) trivial))
def P79_2h:Pat:={tmps:=unds [pL,pI,pI,pU,pU,pU,pI,pI] 41 [],boxes:=nons [] 49 []}
def P79_2x:Pat:={tmps:=unds [pL,pI,pI,pU,pU,pU,pI] 42 [],boxes:=nons [] 49 []}
def P79_0h:Pat:={tmps:=unds [pL,pI,pI,pU,pU,pU,pI] 42 [],boxes:=nons [] 49 []}
def P79_0x:Pat:={tmps:=unds [] 49 [],boxes:=nons [] 49 []}
def b79_2{R:Type}(G:ORC R)(k:Nat)(X:Cu R J75)(Ko:Cu R J74)(a:LV)(b c d e:Int):OV R:=
 (bif(decide (e>b))then(bif((decide (0≤e))&&(decide (e<(a.length:Int))))then(nthK a (Int.toNat e) fun f=>aI .i64 f fun f=>bif((decide (0≤(IntKind.i64.wrap (e-1))))&&(decide ((IntKind.i64.wrap (e-1))<(a.length:Int))))then(nthK a (Int.toNat (IntKind.i64.wrap (e-1))) fun g=>aI .i64 g fun g=>G 72 [.int .i64 f,.int .i64 g] fun f=>uB f fun f g=>unNil g (bif f then(bif((decide (0≤(IntKind.i64.wrap (e-1))))&&(decide ((IntKind.i64.wrap (e-1))<(a.length:Int))))then(nthK a (Int.toNat (IntKind.i64.wrap (e-1))) fun f=>aI .i64 f fun f=>bif((decide (0≤e))&&(decide (e<(a.length:Int))))then(nthK a (Int.toNat e) fun f=>aI .i64 f fun f=>bif((decide (0≤e))&&(decide (e<(a.length:Int))))then(nthK a (Int.toNat e) fun e=>none)else none)else none)else none)else(Ko a b c d)))else none)else none)else(Ko a b c d))
def l79_2g{R:Type}(G:ORC R)(k:Nat)(Ko:Cu R J74)(j:Nat):Cu R J75:=lup J75 (fun X=>b79_2 G k X Ko) j
def l79_2{R:Type}(G:ORC R)(k:Nat)(a:LV)(b c d e:Int)(Ko:Cu R J74):OV R:=l79_2g G k Ko k a b c d e
def b79_0{R:Type}(G:ORC R)(k:Nat)(X:Cu R J74)(Ko:Cu R J11)(a:LV)(b c d:Int):OV R:=
 (bif(decide (d<c))then(l79_2 G k a b c d d (fun a b c d=>X a b c (IntKind.i64.wrap (d+1))))else(Ko ()))
def l79_0g{R:Type}(G:ORC R)(k:Nat)(Ko:Cu R J11)(j:Nat):Cu R J74:=lup J74 (fun X=>b79_0 G k X Ko) j
def l79_0{R:Type}(G:ORC R)(k:Nat)(a:LV)(b c d:Int)(Ko:Cu R J11):OV R:=l79_0g G k Ko k a b c d
def L79{R:Type}(G:ORC R)(k:Nat):Nat→St→(Ex→St→OV R)→OV R
 |2,S,K=>P79_2h.mat S fun vs=>uc J75 (l79_2g G k (koX J74 P79_2x K) k) vs none
 |0,S,K=>P79_0h.mat S fun vs=>uc J74 (l79_0g G k (koX J11 P79_0x K) k) vs none
 |_,_,_=>none
def f79{R:Type}(G:ORC R)(k:Nat)(a:LV)(b c:Int)(K:LV→OV R):OV R:=
 (l79_0 G k a b c (IntKind.i64.wrap (b+1)) (fun(_:Unit)=>K []))
abbrev g79 {R:Type} (G:ORC R) (k:Nat):LV→(LV→OV R)→OV R:=gF J30 (f79 G k)
theorem s79{R:Type}{G:ORC R}{k:Nat}(hG:Sound Try.prog TAB G):TL 79 (g79 G k):=
 gG J30 (by kernel_rfl) (callF_sound (L:=L79 G k) (f:=79) TAB_chk MO hG Try.func79 (sg:=S79) (by kernel_rfl) (by kernel_rfl) (las [0,2] (by kernel_rfl) ⟨loopIs J74 k (fun K X=>b79_0 G k X (koX J11 P79_0x K)) P79_0h P79_0x default (by kernel_rfl) (by kernel_rfl) (by kernel_rfl) (fun K X=>by kernel_rfl) (fun S K=>by kernel_rfl),loopIs J75 k (fun K X=>b79_2 G k X (koX J74 P79_2x K)) P79_2h P79_2x default (by kernel_rfl) (by kernel_rfl) (by kernel_rfl) (fun K X=>by kernel_rfl) (fun S K=>by kernel_rfl),trivial⟩))
def f88{R:Type}(G:ORC R)(k:Nat)(a:Int)(K:LV→OV R):OV R:=
 (bif(decide (a≥4294967296))then(bif(decide ((Int.fdiv a (2^(min 32 IntKind.u64.bits)))≥65536))then(bif(decide ((Int.fdiv (Int.fdiv a (2^(min 32 IntKind.u64.bits))) (2^(min 16 IntKind.u64.bits)))≥256))then(bif((decide (0≤(IntKind.u8.wrap (Int.fdiv (Int.fdiv (Int.fdiv a (2^(min 32 IntKind.u64.bits))) (2^(min 16 IntKind.u64.bits))) (2^(min 8 IntKind.u64.bits))))))&&(decide ((IntKind.u8.wrap (Int.fdiv (Int.fdiv (Int.fdiv a (2^(min 32 IntKind.u64.bits))) (2^(min 16 IntKind.u64.bits))) (2^(min 8 IntKind.u64.bits))))<((ByteArray.size ⟨#[0,1,2,2,3,3,3,3,4,4,4,4,4,4,4,4,5,5,5,5,5,5,5,5,5,5,5,5,5,5,5,5,6,6,6,6,6,6,6,6,6,6,6,6,6,6,6,6,6,6,6,6,6,6,6,6,6,6,6,6,6,6,6,6,7,7,7,7,7,7,7,7,7,7,7,7,7,7,7,7,7,7,7,7,7,7,7,7,7,7,7,7,7,7,7,7,7,7,7,7,7,7,7,7,7,7,7,7,7,7,7,7,7,7,7,7,7,7,7,7,7,7,7,7,7,7,7,7,8,8,8,8,8,8,8,8,8,8,8,8,8,8,8,8,8,8,8,8,8,8,8,8,8,8,8,8,8,8,8,8,8,8,8,8,8,8,8,8,8,8,8,8,8,8,8,8,8,8,8,8,8,8,8,8,8,8,8,8,8,8,8,8,8,8,8,8,8,8,8,8,8,8,8,8,8,8,8,8,8,8,8,8,8,8,8,8,8,8,8,8,8,8,8,8,8,8,8,8,8,8,8,8,8,8,8,8,8,8,8,8,8,8,8,8,8,8,8,8,8,8,8,8,8,8,8,8]⟩:Nat):Int))))then(K [.int .i64 (IntKind.i64.wrap (56+(IntKind.i64.wrap ((List.getD (⟨#[0,1,2,2,3,3,3,3,4,4,4,4,4,4,4,4,5,5,5,5,5,5,5,5,5,5,5,5,5,5,5,5,6,6,6,6,6,6,6,6,6,6,6,6,6,6,6,6,6,6,6,6,6,6,6,6,6,6,6,6,6,6,6,6,7,7,7,7,7,7,7,7,7,7,7,7,7,7,7,7,7,7,7,7,7,7,7,7,7,7,7,7,7,7,7,7,7,7,7,7,7,7,7,7,7,7,7,7,7,7,7,7,7,7,7,7,7,7,7,7,7,7,7,7,7,7,7,7,8,8,8,8,8,8,8,8,8,8,8,8,8,8,8,8,8,8,8,8,8,8,8,8,8,8,8,8,8,8,8,8,8,8,8,8,8,8,8,8,8,8,8,8,8,8,8,8,8,8,8,8,8,8,8,8,8,8,8,8,8,8,8,8,8,8,8,8,8,8,8,8,8,8,8,8,8,8,8,8,8,8,8,8,8,8,8,8,8,8,8,8,8,8,8,8,8,8,8,8,8,8,8,8,8,8,8,8,8,8,8,8,8,8,8,8,8,8,8,8,8,8,8,8,8,8,8,8]⟩:ByteArray).data.toList (Int.toNat (IntKind.u8.wrap (Int.fdiv (Int.fdiv (Int.fdiv a (2^(min 32 IntKind.u64.bits))) (2^(min 16 IntKind.u64.bits))) (2^(min 8 IntKind.u64.bits))))) 0).toNat:Int))))])else none)else(bif((decide (0≤(IntKind.u8.wrap (Int.fdiv (Int.fdiv a (2^(min 32 IntKind.u64.bits))) (2^(min 16 IntKind.u64.bits))))))&&(decide ((IntKind.u8.wrap (Int.fdiv (Int.fdiv a (2^(min 32 IntKind.u64.bits))) (2^(min 16 IntKind.u64.bits))))<((ByteArray.size ⟨#[0,1,2,2,3,3,3,3,4,4,4,4,4,4,4,4,5,5,5,5,5,5,5,5,5,5,5,5,5,5,5,5,6,6,6,6,6,6,6,6,6,6,6,6,6,6,6,6,6,6,6,6,6,6,6,6,6,6,6,6,6,6,6,6,7,7,7,7,7,7,7,7,7,7,7,7,7,7,7,7,7,7,7,7,7,7,7,7,7,7,7,7,7,7,7,7,7,7,7,7,7,7,7,7,7,7,7,7,7,7,7,7,7,7,7,7,7,7,7,7,7,7,7,7,7,7,7,7,8,8,8,8,8,8,8,8,8,8,8,8,8,8,8,8,8,8,8,8,8,8,8,8,8,8,8,8,8,8,8,8,8,8,8,8,8,8,8,8,8,8,8,8,8,8,8,8,8,8,8,8,8,8,8,8,8,8,8,8,8,8,8,8,8,8,8,8,8,8,8,8,8,8,8,8,8,8,8,8,8,8,8,8,8,8,8,8,8,8,8,8,8,8,8,8,8,8,8,8,8,8,8,8,8,8,8,8,8,8,8,8,8,8,8,8,8,8,8,8,8,8,8,8,8,8,8,8]⟩:Nat):Int))))then(K [.int .i64 (IntKind.i64.wrap (48+(IntKind.i64.wrap ((List.getD (⟨#[0,1,2,2,3,3,3,3,4,4,4,4,4,4,4,4,5,5,5,5,5,5,5,5,5,5,5,5,5,5,5,5,6,6,6,6,6,6,6,6,6,6,6,6,6,6,6,6,6,6,6,6,6,6,6,6,6,6,6,6,6,6,6,6,7,7,7,7,7,7,7,7,7,7,7,7,7,7,7,7,7,7,7,7,7,7,7,7,7,7,7,7,7,7,7,7,7,7,7,7,7,7,7,7,7,7,7,7,7,7,7,7,7,7,7,7,7,7,7,7,7,7,7,7,7,7,7,7,8,8,8,8,8,8,8,8,8,8,8,8,8,8,8,8,8,8,8,8,8,8,8,8,8,8,8,8,8,8,8,8,8,8,8,8,8,8,8,8,8,8,8,8,8,8,8,8,8,8,8,8,8,8,8,8,8,8,8,8,8,8,8,8,8,8,8,8,8,8,8,8,8,8,8,8,8,8,8,8,8,8,8,8,8,8,8,8,8,8,8,8,8,8,8,8,8,8,8,8,8,8,8,8,8,8,8,8,8,8,8,8,8,8,8,8,8,8,8,8,8,8,8,8,8,8,8,8]⟩:ByteArray).data.toList (Int.toNat (IntKind.u8.wrap (Int.fdiv (Int.fdiv a (2^(min 32 IntKind.u64.bits))) (2^(min 16 IntKind.u64.bits))))) 0).toNat:Int))))])else none))else(bif(decide ((Int.fdiv a (2^(min 32 IntKind.u64.bits)))≥256))then(bif((decide (0≤(IntKind.u8.wrap (Int.fdiv (Int.fdiv a (2^(min 32 IntKind.u64.bits))) (2^(min 8 IntKind.u64.bits))))))&&(decide ((IntKind.u8.wrap (Int.fdiv (Int.fdiv a (2^(min 32 IntKind.u64.bits))) (2^(min 8 IntKind.u64.bits))))<((ByteArray.size ⟨#[0,1,2,2,3,3,3,3,4,4,4,4,4,4,4,4,5,5,5,5,5,5,5,5,5,5,5,5,5,5,5,5,6,6,6,6,6,6,6,6,6,6,6,6,6,6,6,6,6,6,6,6,6,6,6,6,6,6,6,6,6,6,6,6,7,7,7,7,7,7,7,7,7,7,7,7,7,7,7,7,7,7,7,7,7,7,7,7,7,7,7,7,7,7,7,7,7,7,7,7,7,7,7,7,7,7,7,7,7,7,7,7,7,7,7,7,7,7,7,7,7,7,7,7,7,7,7,7,8,8,8,8,8,8,8,8,8,8,8,8,8,8,8,8,8,8,8,8,8,8,8,8,8,8,8,8,8,8,8,8,8,8,8,8,8,8,8,8,8,8,8,8,8,8,8,8,8,8,8,8,8,8,8,8,8,8,8,8,8,8,8,8,8,8,8,8,8,8,8,8,8,8,8,8,8,8,8,8,8,8,8,8,8,8,8,8,8,8,8,8,8,8,8,8,8,8,8,8,8,8,8,8,8,8,8,8,8,8,8,8,8,8,8,8,8,8,8,8,8,8,8,8,8,8,8,8]⟩:Nat):Int))))then(K [.int .i64 (IntKind.i64.wrap (40+(IntKind.i64.wrap ((List.getD (⟨#[0,1,2,2,3,3,3,3,4,4,4,4,4,4,4,4,5,5,5,5,5,5,5,5,5,5,5,5,5,5,5,5,6,6,6,6,6,6,6,6,6,6,6,6,6,6,6,6,6,6,6,6,6,6,6,6,6,6,6,6,6,6,6,6,7,7,7,7,7,7,7,7,7,7,7,7,7,7,7,7,7,7,7,7,7,7,7,7,7,7,7,7,7,7,7,7,7,7,7,7,7,7,7,7,7,7,7,7,7,7,7,7,7,7,7,7,7,7,7,7,7,7,7,7,7,7,7,7,8,8,8,8,8,8,8,8,8,8,8,8,8,8,8,8,8,8,8,8,8,8,8,8,8,8,8,8,8,8,8,8,8,8,8,8,8,8,8,8,8,8,8,8,8,8,8,8,8,8,8,8,8,8,8,8,8,8,8,8,8,8,8,8,8,8,8,8,8,8,8,8,8,8,8,8,8,8,8,8,8,8,8,8,8,8,8,8,8,8,8,8,8,8,8,8,8,8,8,8,8,8,8,8,8,8,8,8,8,8,8,8,8,8,8,8,8,8,8,8,8,8,8,8,8,8,8,8]⟩:ByteArray).data.toList (Int.toNat (IntKind.u8.wrap (Int.fdiv (Int.fdiv a (2^(min 32 IntKind.u64.bits))) (2^(min 8 IntKind.u64.bits))))) 0).toNat:Int))))])else none)else(bif((decide (0≤(IntKind.u8.wrap (Int.fdiv a (2^(min 32 IntKind.u64.bits))))))&&(decide ((IntKind.u8.wrap (Int.fdiv a (2^(min 32 IntKind.u64.bits))))<((ByteArray.size ⟨#[0,1,2,2,3,3,3,3,4,4,4,4,4,4,4,4,5,5,5,5,5,5,5,5,5,5,5,5,5,5,5,5,6,6,6,6,6,6,6,6,6,6,6,6,6,6,6,6,6,6,6,6,6,6,6,6,6,6,6,6,6,6,6,6,7,7,7,7,7,7,7,7,7,7,7,7,7,7,7,7,7,7,7,7,7,7,7,7,7,7,7,7,7,7,7,7,7,7,7,7,7,7,7,7,7,7,7,7,7,7,7,7,7,7,7,7,7,7,7,7,7,7,7,7,7,7,7,7,8,8,8,8,8,8,8,8,8,8,8,8,8,8,8,8,8,8,8,8,8,8,8,8,8,8,8,8,8,8,8,8,8,8,8,8,8,8,8,8,8,8,8,8,8,8,8,8,8,8,8,8,8,8,8,8,8,8,8,8,8,8,8,8,8,8,8,8,8,8,8,8,8,8,8,8,8,8,8,8,8,8,8,8,8,8,8,8,8,8,8,8,8,8,8,8,8,8,8,8,8,8,8,8,8,8,8,8,8,8,8,8,8,8,8,8,8,8,8,8,8,8,8,8,8,8,8,8]⟩:Nat):Int))))then(K [.int .i64 (IntKind.i64.wrap (32+(IntKind.i64.wrap ((List.getD (⟨#[0,1,2,2,3,3,3,3,4,4,4,4,4,4,4,4,5,5,5,5,5,5,5,5,5,5,5,5,5,5,5,5,6,6,6,6,6,6,6,6,6,6,6,6,6,6,6,6,6,6,6,6,6,6,6,6,6,6,6,6,6,6,6,6,7,7,7,7,7,7,7,7,7,7,7,7,7,7,7,7,7,7,7,7,7,7,7,7,7,7,7,7,7,7,7,7,7,7,7,7,7,7,7,7,7,7,7,7,7,7,7,7,7,7,7,7,7,7,7,7,7,7,7,7,7,7,7,7,8,8,8,8,8,8,8,8,8,8,8,8,8,8,8,8,8,8,8,8,8,8,8,8,8,8,8,8,8,8,8,8,8,8,8,8,8,8,8,8,8,8,8,8,8,8,8,8,8,8,8,8,8,8,8,8,8,8,8,8,8,8,8,8,8,8,8,8,8,8,8,8,8,8,8,8,8,8,8,8,8,8,8,8,8,8,8,8,8,8,8,8,8,8,8,8,8,8,8,8,8,8,8,8,8,8,8,8,8,8,8,8,8,8,8,8,8,8,8,8,8,8,8,8,8,8,8,8]⟩:ByteArray).data.toList (Int.toNat (IntKind.u8.wrap (Int.fdiv a (2^(min 32 IntKind.u64.bits))))) 0).toNat:Int))))])else none)))else(bif(decide (a≥65536))then(bif(decide ((Int.fdiv a (2^(min 16 IntKind.u64.bits)))≥256))then(bif((decide (0≤(IntKind.u8.wrap (Int.fdiv (Int.fdiv a (2^(min 16 IntKind.u64.bits))) (2^(min 8 IntKind.u64.bits))))))&&(decide ((IntKind.u8.wrap (Int.fdiv (Int.fdiv a (2^(min 16 IntKind.u64.bits))) (2^(min 8 IntKind.u64.bits))))<((ByteArray.size ⟨#[0,1,2,2,3,3,3,3,4,4,4,4,4,4,4,4,5,5,5,5,5,5,5,5,5,5,5,5,5,5,5,5,6,6,6,6,6,6,6,6,6,6,6,6,6,6,6,6,6,6,6,6,6,6,6,6,6,6,6,6,6,6,6,6,7,7,7,7,7,7,7,7,7,7,7,7,7,7,7,7,7,7,7,7,7,7,7,7,7,7,7,7,7,7,7,7,7,7,7,7,7,7,7,7,7,7,7,7,7,7,7,7,7,7,7,7,7,7,7,7,7,7,7,7,7,7,7,7,8,8,8,8,8,8,8,8,8,8,8,8,8,8,8,8,8,8,8,8,8,8,8,8,8,8,8,8,8,8,8,8,8,8,8,8,8,8,8,8,8,8,8,8,8,8,8,8,8,8,8,8,8,8,8,8,8,8,8,8,8,8,8,8,8,8,8,8,8,8,8,8,8,8,8,8,8,8,8,8,8,8,8,8,8,8,8,8,8,8,8,8,8,8,8,8,8,8,8,8,8,8,8,8,8,8,8,8,8,8,8,8,8,8,8,8,8,8,8,8,8,8,8,8,8,8,8,8]⟩:Nat):Int))))then(K [.int .i64 (IntKind.i64.wrap (24+(IntKind.i64.wrap ((List.getD (⟨#[0,1,2,2,3,3,3,3,4,4,4,4,4,4,4,4,5,5,5,5,5,5,5,5,5,5,5,5,5,5,5,5,6,6,6,6,6,6,6,6,6,6,6,6,6,6,6,6,6,6,6,6,6,6,6,6,6,6,6,6,6,6,6,6,7,7,7,7,7,7,7,7,7,7,7,7,7,7,7,7,7,7,7,7,7,7,7,7,7,7,7,7,7,7,7,7,7,7,7,7,7,7,7,7,7,7,7,7,7,7,7,7,7,7,7,7,7,7,7,7,7,7,7,7,7,7,7,7,8,8,8,8,8,8,8,8,8,8,8,8,8,8,8,8,8,8,8,8,8,8,8,8,8,8,8,8,8,8,8,8,8,8,8,8,8,8,8,8,8,8,8,8,8,8,8,8,8,8,8,8,8,8,8,8,8,8,8,8,8,8,8,8,8,8,8,8,8,8,8,8,8,8,8,8,8,8,8,8,8,8,8,8,8,8,8,8,8,8,8,8,8,8,8,8,8,8,8,8,8,8,8,8,8,8,8,8,8,8,8,8,8,8,8,8,8,8,8,8,8,8,8,8,8,8,8,8]⟩:ByteArray).data.toList (Int.toNat (IntKind.u8.wrap (Int.fdiv (Int.fdiv a (2^(min 16 IntKind.u64.bits))) (2^(min 8 IntKind.u64.bits))))) 0).toNat:Int))))])else none)else(bif((decide (0≤(IntKind.u8.wrap (Int.fdiv a (2^(min 16 IntKind.u64.bits))))))&&(decide ((IntKind.u8.wrap (Int.fdiv a (2^(min 16 IntKind.u64.bits))))<((ByteArray.size ⟨#[0,1,2,2,3,3,3,3,4,4,4,4,4,4,4,4,5,5,5,5,5,5,5,5,5,5,5,5,5,5,5,5,6,6,6,6,6,6,6,6,6,6,6,6,6,6,6,6,6,6,6,6,6,6,6,6,6,6,6,6,6,6,6,6,7,7,7,7,7,7,7,7,7,7,7,7,7,7,7,7,7,7,7,7,7,7,7,7,7,7,7,7,7,7,7,7,7,7,7,7,7,7,7,7,7,7,7,7,7,7,7,7,7,7,7,7,7,7,7,7,7,7,7,7,7,7,7,7,8,8,8,8,8,8,8,8,8,8,8,8,8,8,8,8,8,8,8,8,8,8,8,8,8,8,8,8,8,8,8,8,8,8,8,8,8,8,8,8,8,8,8,8,8,8,8,8,8,8,8,8,8,8,8,8,8,8,8,8,8,8,8,8,8,8,8,8,8,8,8,8,8,8,8,8,8,8,8,8,8,8,8,8,8,8,8,8,8,8,8,8,8,8,8,8,8,8,8,8,8,8,8,8,8,8,8,8,8,8,8,8,8,8,8,8,8,8,8,8,8,8,8,8,8,8,8,8]⟩:Nat):Int))))then(K [.int .i64 (IntKind.i64.wrap (16+(IntKind.i64.wrap ((List.getD (⟨#[0,1,2,2,3,3,3,3,4,4,4,4,4,4,4,4,5,5,5,5,5,5,5,5,5,5,5,5,5,5,5,5,6,6,6,6,6,6,6,6,6,6,6,6,6,6,6,6,6,6,6,6,6,6,6,6,6,6,6,6,6,6,6,6,7,7,7,7,7,7,7,7,7,7,7,7,7,7,7,7,7,7,7,7,7,7,7,7,7,7,7,7,7,7,7,7,7,7,7,7,7,7,7,7,7,7,7,7,7,7,7,7,7,7,7,7,7,7,7,7,7,7,7,7,7,7,7,7,8,8,8,8,8,8,8,8,8,8,8,8,8,8,8,8,8,8,8,8,8,8,8,8,8,8,8,8,8,8,8,8,8,8,8,8,8,8,8,8,8,8,8,8,8,8,8,8,8,8,8,8,8,8,8,8,8,8,8,8,8,8,8,8,8,8,8,8,8,8,8,8,8,8,8,8,8,8,8,8,8,8,8,8,8,8,8,8,8,8,8,8,8,8,8,8,8,8,8,8,8,8,8,8,8,8,8,8,8,8,8,8,8,8,8,8,8,8,8,8,8,8,8,8,8,8,8,8]⟩:ByteArray).data.toList (Int.toNat (IntKind.u8.wrap (Int.fdiv a (2^(min 16 IntKind.u64.bits))))) 0).toNat:Int))))])else none))else(bif(decide (a≥256))then(bif((decide (0≤(IntKind.u8.wrap (Int.fdiv a (2^(min 8 IntKind.u64.bits))))))&&(decide ((IntKind.u8.wrap (Int.fdiv a (2^(min 8 IntKind.u64.bits))))<((ByteArray.size ⟨#[0,1,2,2,3,3,3,3,4,4,4,4,4,4,4,4,5,5,5,5,5,5,5,5,5,5,5,5,5,5,5,5,6,6,6,6,6,6,6,6,6,6,6,6,6,6,6,6,6,6,6,6,6,6,6,6,6,6,6,6,6,6,6,6,7,7,7,7,7,7,7,7,7,7,7,7,7,7,7,7,7,7,7,7,7,7,7,7,7,7,7,7,7,7,7,7,7,7,7,7,7,7,7,7,7,7,7,7,7,7,7,7,7,7,7,7,7,7,7,7,7,7,7,7,7,7,7,7,8,8,8,8,8,8,8,8,8,8,8,8,8,8,8,8,8,8,8,8,8,8,8,8,8,8,8,8,8,8,8,8,8,8,8,8,8,8,8,8,8,8,8,8,8,8,8,8,8,8,8,8,8,8,8,8,8,8,8,8,8,8,8,8,8,8,8,8,8,8,8,8,8,8,8,8,8,8,8,8,8,8,8,8,8,8,8,8,8,8,8,8,8,8,8,8,8,8,8,8,8,8,8,8,8,8,8,8,8,8,8,8,8,8,8,8,8,8,8,8,8,8,8,8,8,8,8,8]⟩:Nat):Int))))then(K [.int .i64 (IntKind.i64.wrap (8+(IntKind.i64.wrap ((List.getD (⟨#[0,1,2,2,3,3,3,3,4,4,4,4,4,4,4,4,5,5,5,5,5,5,5,5,5,5,5,5,5,5,5,5,6,6,6,6,6,6,6,6,6,6,6,6,6,6,6,6,6,6,6,6,6,6,6,6,6,6,6,6,6,6,6,6,7,7,7,7,7,7,7,7,7,7,7,7,7,7,7,7,7,7,7,7,7,7,7,7,7,7,7,7,7,7,7,7,7,7,7,7,7,7,7,7,7,7,7,7,7,7,7,7,7,7,7,7,7,7,7,7,7,7,7,7,7,7,7,7,8,8,8,8,8,8,8,8,8,8,8,8,8,8,8,8,8,8,8,8,8,8,8,8,8,8,8,8,8,8,8,8,8,8,8,8,8,8,8,8,8,8,8,8,8,8,8,8,8,8,8,8,8,8,8,8,8,8,8,8,8,8,8,8,8,8,8,8,8,8,8,8,8,8,8,8,8,8,8,8,8,8,8,8,8,8,8,8,8,8,8,8,8,8,8,8,8,8,8,8,8,8,8,8,8,8,8,8,8,8,8,8,8,8,8,8,8,8,8,8,8,8,8,8,8,8,8,8]⟩:ByteArray).data.toList (Int.toNat (IntKind.u8.wrap (Int.fdiv a (2^(min 8 IntKind.u64.bits))))) 0).toNat:Int))))])else none)else(bif((decide (0≤(IntKind.u8.wrap a)))&&(decide ((IntKind.u8.wrap a)<((ByteArray.size ⟨#[0,1,2,2,3,3,3,3,4,4,4,4,4,4,4,4,5,5,5,5,5,5,5,5,5,5,5,5,5,5,5,5,6,6,6,6,6,6,6,6,6,6,6,6,6,6,6,6,6,6,6,6,6,6,6,6,6,6,6,6,6,6,6,6,7,7,7,7,7,7,7,7,7,7,7,7,7,7,7,7,7,7,7,7,7,7,7,7,7,7,7,7,7,7,7,7,7,7,7,7,7,7,7,7,7,7,7,7,7,7,7,7,7,7,7,7,7,7,7,7,7,7,7,7,7,7,7,7,8,8,8,8,8,8,8,8,8,8,8,8,8,8,8,8,8,8,8,8,8,8,8,8,8,8,8,8,8,8,8,8,8,8,8,8,8,8,8,8,8,8,8,8,8,8,8,8,8,8,8,8,8,8,8,8,8,8,8,8,8,8,8,8,8,8,8,8,8,8,8,8,8,8,8,8,8,8,8,8,8,8,8,8,8,8,8,8,8,8,8,8,8,8,8,8,8,8,8,8,8,8,8,8,8,8,8,8,8,8,8,8,8,8,8,8,8,8,8,8,8,8,8,8,8,8,8,8]⟩:Nat):Int))))then(K [.int .i64 (IntKind.i64.wrap (0+(IntKind.i64.wrap ((List.getD (⟨#[0,1,2,2,3,3,3,3,4,4,4,4,4,4,4,4,5,5,5,5,5,5,5,5,5,5,5,5,5,5,5,5,6,6,6,6,6,6,6,6,6,6,6,6,6,6,6,6,6,6,6,6,6,6,6,6,6,6,6,6,6,6,6,6,7,7,7,7,7,7,7,7,7,7,7,7,7,7,7,7,7,7,7,7,7,7,7,7,7,7,7,7,7,7,7,7,7,7,7,7,7,7,7,7,7,7,7,7,7,7,7,7,7,7,7,7,7,7,7,7,7,7,7,7,7,7,7,7,8,8,8,8,8,8,8,8,8,8,8,8,8,8,8,8,8,8,8,8,8,8,8,8,8,8,8,8,8,8,8,8,8,8,8,8,8,8,8,8,8,8,8,8,8,8,8,8,8,8,8,8,8,8,8,8,8,8,8,8,8,8,8,8,8,8,8,8,8,8,8,8,8,8,8,8,8,8,8,8,8,8,8,8,8,8,8,8,8,8,8,8,8,8,8,8,8,8,8,8,8,8,8,8,8,8,8,8,8,8,8,8,8,8,8,8,8,8,8,8,8,8,8,8,8,8,8,8]⟩:ByteArray).data.toList (Int.toNat (IntKind.u8.wrap a)) 0).toNat:Int))))])else none))))
abbrev g88 {R:Type} (G:ORC R) (k:Nat):LV→(LV→OV R)→OV R:=gF J90 (f88 G k)
theorem s88{R:Type}{G:ORC R}{k:Nat}(hG:Sound Try.prog TAB G):TL 88 (g88 G k):=
 gG J90 (by kernel_rfl) (callF_sound (L:=fun _ _ _=>none) (f:=88) TAB_chk MO hG Try.func88 (sg:=S88) (by kernel_rfl) (by kernel_rfl) (las [] (by kernel_rfl) trivial))
def f89{R:Type}(G:ORC R)(k:Nat)(a b c:Int)(K:LV→OV R):OV R:=
 (G 109 [.int .i64 c] fun d=>uB d fun d e=>unNil e (bif d then(bif((decide (0≤(IntKind.i64.wrap (Int.tdiv c 64))))&&(decide ((IntKind.i64.wrap (Int.tdiv c 64))<2)))then(nthK [.int .u64 a,.int .u64 b] (Int.toNat (IntKind.i64.wrap (Int.tdiv c 64))) fun d=>bif(decide (0≤(Int.tmod c 64)))then(aI .u64 d fun d=>bif((decide (0≤(IntKind.i64.wrap (Int.tdiv c 64))))&&(decide ((IntKind.i64.wrap (Int.tdiv c 64))<2)))then(aI .u64 (bif(0==(Int.toNat (IntKind.i64.wrap (Int.tdiv c 64))))then(.int .u64 (bits .or .u64 d (IntKind.u64.wrap (1*2^(min (Int.toNat (Int.tmod c 64)) IntKind.u64.bits)))))else(.int .u64 a)) fun e=>aI .u64 (bif(1==(Int.toNat (IntKind.i64.wrap (Int.tdiv c 64))))then(.int .u64 (bits .or .u64 d (IntKind.u64.wrap (1*2^(min (Int.toNat (Int.tmod c 64)) IntKind.u64.bits)))))else(.int .u64 b)) fun c=>K [.agg [.int .u64 e,.int .u64 c]])else none)else none)else none)else(K [.agg [.int .u64 a,.int .u64 b]])))
abbrev g89 {R:Type} (G:ORC R) (k:Nat):LV→(LV→OV R)→OV R:=gF J96 (f89 G k)
theorem s89{R:Type}{G:ORC R}{k:Nat}(hG:Sound Try.prog TAB G):TL 89 (g89 G k):=
 gG J96 (by kernel_rfl) (callF_sound (L:=fun _ _ _=>none) (f:=89) TAB_chk MO hG Try.func89 (sg:=S89) (by kernel_rfl) (by kernel_rfl) (las [] (by kernel_rfl) trivial))
def f90{R:Type}(G:ORC R)(k:Nat)(a:Int)(b:LV)(b c d:Int)(e f:LV)(g h:Int)(i l m:LV)(n o:Int)(K:LV→OV R):OV R:=
 (bif(decide (List.length e+1≤1073741824))then(K [.int .u64 b,.int .u64 c,.int .i64 d,.sl 1 (e++[.int .i64 a]),.sl 1 f,.int .i64 g,.int .i64 h,.sl 1 i,.sl 2 l,.sl 4 m,.int .i64 n,.int .i64 o])else none)
abbrev g90 {R:Type} (G:ORC R) (k:Nat):LV→(LV→OV R)→OV R:=gF J97 (f90 G k)
theorem s90{R:Type}{G:ORC R}{k:Nat}(hG:Sound Try.prog TAB G):TL 90 (g90 G k):=
 gG J97 (by kernel_rfl) (callF_sound (L:=fun _ _ _=>none) (f:=90) TAB_chk MO hG Try.func90 (sg:=S90) (by kernel_rfl) (by kernel_rfl) (las [] (by kernel_rfl) trivial))
def f91{R:Type}(G:ORC R)(k:Nat)(a:Bool)(K:LV→OV R):OV R:=
 (bif a then(K [.int .i64 1])else(K [.int .i64 0]))
abbrev g91 {R:Type} (G:ORC R) (k:Nat):LV→(LV→OV R)→OV R:=gF J7 (f91 G k)
theorem s91{R:Type}{G:ORC R}{k:Nat}(hG:Sound Try.prog TAB G):TL 91 (g91 G k):=
 gG J7 (by kernel_rfl) (callF_sound (L:=fun _ _ _=>none) (f:=91) TAB_chk MO hG Try.func91 (sg:=S91) (by kernel_rfl) (by kernel_rfl) (las [] (by kernel_rfl) trivial))
def f92{R:Type}(G:ORC R)(k:Nat)(a b c:Int)(K:LV→OV R):OV R:=
 (G 89 [.agg [.int .u64 a,.int .u64 b],.int .i64 c] fun d=>uA d fun d e=>uI .u64 d fun d f=>uI .u64 f fun f g=>unNil g (unNil e (bif((d==a)&&((f==b)&&true))then(G 109 [.int .i64 c] fun a=>uB a fun a b=>unNil b (K [.bool a]))else(K [.bool false]))))
abbrev g92 {R:Type} (G:ORC R) (k:Nat):LV→(LV→OV R)→OV R:=gF J96 (f92 G k)
theorem s92{R:Type}{G:ORC R}{k:Nat}(hG:Sound Try.prog TAB G):TL 92 (g92 G k):=
 gG J96 (by kernel_rfl) (callF_sound (L:=fun _ _ _=>none) (f:=92) TAB_chk MO hG Try.func92 (sg:=S92) (by kernel_rfl) (by kernel_rfl) (las [] (by kernel_rfl) trivial))
def f93{R:Type}(G:ORC R)(k:Nat)(a b:Int)(K:LV→OV R):OV R:=
 (bif(b !=0)then(K [.bool true,.int .i64 b,.int .i64 0])else(K [.bool false,.int .i64 0,.int .i64 a]))
abbrev g93 {R:Type} (G:ORC R) (k:Nat):LV→(LV→OV R)→OV R:=gF J45 (f93 G k)
theorem s93{R:Type}{G:ORC R}{k:Nat}(hG:Sound Try.prog TAB G):TL 93 (g93 G k):=
 gG J45 (by kernel_rfl) (callF_sound (L:=fun _ _ _=>none) (f:=93) TAB_chk MO hG Try.func93 (sg:=S93) (by kernel_rfl) (by kernel_rfl) (las [] (by kernel_rfl) trivial))
def f94{R:Type}(G:ORC R)(k:Nat)(a:Int)(K:LV→OV R):OV R:=
 (G 110 [.int .i64 0,.int .i64 a] fun a=>uI .i64 a fun a b=>uI .i64 b fun b c=>unNil c (K [.int .i64 a,.int .i64 b]))
abbrev g94 {R:Type} (G:ORC R) (k:Nat):LV→(LV→OV R)→OV R:=gF J14 (f94 G k)
theorem s94{R:Type}{G:ORC R}{k:Nat}(hG:Sound Try.prog TAB G):TL 94 (g94 G k):=
 gG J14 (by kernel_rfl) (callF_sound (L:=fun _ _ _=>none) (f:=94) TAB_chk MO hG Try.func94 (sg:=S94) (by kernel_rfl) (by kernel_rfl) (las [] (by kernel_rfl) trivial))
def f95{R:Type}(G:ORC R)(k:Nat)(a:LV)(a b c:Int)(d e:LV)(f g:Int)(h i l:LV)(m n:Int)(K:LV→OV R):OV R:=
 (bif((decide (0≤(IntKind.i64.wrap ((d.length:Int)-1))))&&(decide ((IntKind.i64.wrap ((d.length:Int)-1))<(d.length:Int))))then(nthK d (Int.toNat (IntKind.i64.wrap ((d.length:Int)-1))) fun o=>aI .i64 o fun o=>bif((decide (0≤(IntKind.i64.wrap ((d.length:Int)-1))))&&(decide ((IntKind.i64.wrap ((d.length:Int)-1))≤(d.length:Int))))then(K [.int .i64 o,.int .u64 a,.int .u64 b,.int .i64 c,.sl 1 (List.take (Int.toNat (IntKind.i64.wrap ((d.length:Int)-1))) d),.sl 1 e,.int .i64 f,.int .i64 g,.sl 1 h,.sl 2 i,.sl 4 l,.int .i64 m,.int .i64 n])else none)else none)
abbrev g95 {R:Type} (G:ORC R) (k:Nat):LV→(LV→OV R)→OV R:=gF J98 (f95 G k)
theorem s95{R:Type}{G:ORC R}{k:Nat}(hG:Sound Try.prog TAB G):TL 95 (g95 G k):=
 gG J98 (by kernel_rfl) (callF_sound (L:=fun _ _ _=>none) (f:=95) TAB_chk MO hG Try.func95 (sg:=S95) (by kernel_rfl) (by kernel_rfl) (las [] (by kernel_rfl) trivial))
def f96{R:Type}(G:ORC R)(k:Nat)(a b c:Int)(c:ByteArray)(d:LV)(e f g:Int)(h i:LV)(l m:Int)(n o p:LV)(q r:Int)(K:LV→OV R):OV R:=
 (bif(a !=22)then(G 95 [.sl 4 d,.int .u64 e,.int .u64 f,.int .i64 g,.sl 1 h,.sl 1 i,.int .i64 l,.int .i64 m,.sl 1 n,.sl 2 o,.sl 4 p,.int .i64 q,.int .i64 r] fun s=>uI .i64 s fun s t=>uI .u64 t fun t u=>uI .u64 u fun u v=>uI .i64 v fun v w=>uL 1 w fun w x=>uL 1 x fun x y=>uI .i64 y fun y z=>uI .i64 z fun z A=>uL 1 A fun A B=>uL 2 B fun B C=>uL 4 C fun C D=>uI .i64 D fun D E=>uI .i64 E fun E F=>unNil F (bif(a==19)then(bif(decide (List.length B+1≤1073741824))then(K [.bool false,.int .i64 0,.int .u64 t,.int .u64 u,.int .i64 v,.sl 1 w,.sl 1 x,.int .i64 y,.int .i64 z,.sl 1 A,.sl 2 (B++[.agg [.str c,.int .i64 s]]),.sl 4 C,.int .i64 D,.int .i64 E])else none)else(bif(a==20)then(G 111 [.int .i64 1,.int .i64 b,.agg [.str c,.int .i64 s],.sl 4 d,.int .u64 t,.int .u64 u,.int .i64 v,.sl 1 w,.sl 1 x,.int .i64 y,.int .i64 z,.sl 1 A,.sl 2 B,.sl 4 C,.int .i64 D,.int .i64 E] fun F=>uI .u64 F fun F H=>uI .u64 H fun H I=>uI .i64 I fun I J=>uL 1 J fun J L=>uL 1 L fun L M=>uI .i64 M fun M N=>uI .i64 N fun N O=>uL 1 O fun O P=>uL 2 P fun P Q=>uL 4 Q fun Q S=>uI .i64 S fun S T=>uI .i64 T fun T U=>unNil U (K [.bool false,.int .i64 0,.int .u64 F,.int .u64 H,.int .i64 I,.sl 1 J,.sl 1 L,.int .i64 M,.int .i64 N,.sl 1 O,.sl 2 P,.sl 4 Q,.int .i64 S,.int .i64 T]))else(bif(a==21)then(bif(decide (s<1))then(K [.bool true,.int .i64 1,.int .u64 t,.int .u64 u,.int .i64 v,.sl 1 w,.sl 1 x,.int .i64 y,.int .i64 z,.sl 1 A,.sl 2 B,.sl 4 C,.int .i64 D,.int .i64 E])else(bif(decide (s>65536))then(K [.bool true,.int .i64 1,.int .u64 t,.int .u64 u,.int .i64 v,.sl 1 w,.sl 1 x,.int .i64 y,.int .i64 z,.sl 1 A,.sl 2 B,.sl 4 C,.int .i64 D,.int .i64 E])else(G 111 [.int .i64 2,.int .i64 b,.agg [.str ⟨#[]⟩,.int .i64 s],.sl 4 d,.int .u64 t,.int .u64 u,.int .i64 v,.sl 1 w,.sl 1 x,.int .i64 y,.int .i64 z,.sl 1 A,.sl 2 B,.sl 4 C,.int .i64 D,.int .i64 E] fun s=>uI .u64 s fun s F=>uI .u64 F fun F H=>uI .i64 H fun H I=>uL 1 I fun I J=>uL 1 J fun J L=>uI .i64 L fun L M=>uI .i64 M fun M N=>uL 1 N fun N O=>uL 2 O fun O P=>uL 4 P fun P Q=>uI .i64 Q fun Q S=>uI .i64 S fun S T=>unNil T (K [.bool false,.int .i64 0,.int .u64 s,.int .u64 F,.int .i64 H,.sl 1 I,.sl 1 J,.int .i64 L,.int .i64 M,.sl 1 N,.sl 2 O,.sl 4 P,.int .i64 Q,.int .i64 S]))))else(G 111 [.int .i64 3,.int .i64 b,.agg [.str ⟨#[]⟩,.int .i64 0],.sl 4 d,.int .u64 t,.int .u64 u,.int .i64 v,.sl 1 w,.sl 1 x,.int .i64 y,.int .i64 z,.sl 1 A,.sl 2 B,.sl 4 C,.int .i64 D,.int .i64 E] fun s=>uI .u64 s fun s t=>uI .u64 t fun t u=>uI .i64 u fun u v=>uL 1 v fun v w=>uL 1 w fun w x=>uI .i64 x fun x y=>uI .i64 y fun y z=>uL 1 z fun z A=>uL 2 A fun A B=>uL 4 B fun B C=>uI .i64 C fun C D=>uI .i64 D fun D E=>unNil E (K [.bool false,.int .i64 0,.int .u64 s,.int .u64 t,.int .i64 u,.sl 1 v,.sl 1 w,.int .i64 x,.int .i64 y,.sl 1 z,.sl 2 A,.sl 4 B,.int .i64 C,.int .i64 D]))))))else(bif(a==19)then(bif(decide (List.length o+1≤1073741824))then(K [.bool false,.int .i64 0,.int .u64 e,.int .u64 f,.int .i64 g,.sl 1 h,.sl 1 i,.int .i64 l,.int .i64 m,.sl 1 n,.sl 2 (o++[.agg [.str c,.int .i64 0]]),.sl 4 p,.int .i64 q,.int .i64 r])else none)else(bif(a==20)then(G 111 [.int .i64 1,.int .i64 b,.agg [.str c,.int .i64 0],.sl 4 d,.int .u64 e,.int .u64 f,.int .i64 g,.sl 1 h,.sl 1 i,.int .i64 l,.int .i64 m,.sl 1 n,.sl 2 o,.sl 4 p,.int .i64 q,.int .i64 r] fun c=>uI .u64 c fun c s=>uI .u64 s fun s t=>uI .i64 t fun t u=>uL 1 u fun u v=>uL 1 v fun v w=>uI .i64 w fun w x=>uI .i64 x fun x y=>uL 1 y fun y z=>uL 2 z fun z A=>uL 4 A fun A B=>uI .i64 B fun B C=>uI .i64 C fun C D=>unNil D (K [.bool false,.int .i64 0,.int .u64 c,.int .u64 s,.int .i64 t,.sl 1 u,.sl 1 v,.int .i64 w,.int .i64 x,.sl 1 y,.sl 2 z,.sl 4 A,.int .i64 B,.int .i64 C]))else(bif(a==21)then(K [.bool true,.int .i64 1,.int .u64 e,.int .u64 f,.int .i64 g,.sl 1 h,.sl 1 i,.int .i64 l,.int .i64 m,.sl 1 n,.sl 2 o,.sl 4 p,.int .i64 q,.int .i64 r])else(G 111 [.int .i64 3,.int .i64 b,.agg [.str ⟨#[]⟩,.int .i64 0],.sl 4 d,.int .u64 e,.int .u64 f,.int .i64 g,.sl 1 h,.sl 1 i,.int .i64 l,.int .i64 m,.sl 1 n,.sl 2 o,.sl 4 p,.int .i64 q,.int .i64 r] fun a=>uI .u64 a fun a b=>uI .u64 b fun b c=>uI .i64 c fun c d=>uL 1 d fun d e=>uL 1 e fun e f=>uI .i64 f fun f g=>uI .i64 g fun g h=>uL 1 h fun h i=>uL 2 i fun i l=>uL 4 l fun l m=>uI .i64 m fun m n=>uI .i64 n fun n o=>unNil o (K [.bool false,.int .i64 0,.int .u64 a,.int .u64 b,.int .i64 c,.sl 1 d,.sl 1 e,.int .i64 f,.int .i64 g,.sl 1 h,.sl 2 i,.sl 4 l,.int .i64 m,.int .i64 n]))))))
abbrev g96 {R:Type} (G:ORC R) (k:Nat):LV→(LV→OV R)→OV R:=gF J93 (f96 G k)
theorem s96{R:Type}{G:ORC R}{k:Nat}(hG:Sound Try.prog TAB G):TL 96 (g96 G k):=
 gG J93 (by kernel_rfl) (callF_sound (L:=fun _ _ _=>none) (f:=96) TAB_chk MO hG Try.func96 (sg:=S96) (by kernel_rfl) (by kernel_rfl) (las [] (by kernel_rfl) trivial))
def f97{R:Type}(G:ORC R)(k:Nat)(a b c:Int)(d:ByteArray)(d:LV)(e f g:Int)(h i:LV)(l m:Int)(n o p:LV)(q r:Int)(K:LV→OV R):OV R:=
 (bif(a==23)then(K [.int .u64 e,.int .u64 f,.int .i64 g,.sl 1 h,.sl 1 i,.int .i64 b,.int .i64 m,.sl 1 n,.sl 2 o,.sl 4 p,.int .i64 q,.int .i64 r])else(bif(a==24)then(G 95 [.sl 4 d,.int .u64 e,.int .u64 f,.int .i64 g,.sl 1 h,.sl 1 i,.int .i64 l,.int .i64 m,.sl 1 n,.sl 2 o,.sl 4 p,.int .i64 q,.int .i64 r] fun d=>uI .i64 d fun d s=>uI .u64 s fun s t=>uI .u64 t fun t u=>uI .i64 u fun u v=>uL 1 v fun v w=>uL 1 w fun w x=>uI .i64 x fun x y=>uI .i64 y fun y z=>uL 1 z fun z A=>uL 2 A fun A B=>uL 4 B fun B C=>uI .i64 C fun C D=>uI .i64 D fun D E=>unNil E (bif(d==0)then(K [.int .u64 s,.int .u64 t,.int .i64 u,.sl 1 v,.sl 1 w,.int .i64 b,.int .i64 y,.sl 1 z,.sl 2 A,.sl 4 B,.int .i64 C,.int .i64 D])else(K [.int .u64 s,.int .u64 t,.int .i64 u,.sl 1 v,.sl 1 w,.int .i64 x,.int .i64 y,.sl 1 z,.sl 2 A,.sl 4 B,.int .i64 C,.int .i64 D])))else(bif(a==25)then(bif(decide (List.length i+1≤1073741824))then(K [.int .u64 e,.int .u64 f,.int .i64 g,.sl 1 h,.sl 1 (i++[.int .i64 c]),.int .i64 l,.int .i64 m,.sl 1 n,.sl 2 o,.sl 4 p,.int .i64 q,.int .i64 r])else none)else(bif((decide (0≤(IntKind.i64.wrap ((i.length:Int)-1))))&&(decide ((IntKind.i64.wrap ((i.length:Int)-1))<(i.length:Int))))then(nthK i (Int.toNat (IntKind.i64.wrap ((i.length:Int)-1))) fun a=>aI .i64 a fun a=>bif((decide (0≤(IntKind.i64.wrap ((i.length:Int)-1))))&&(decide ((IntKind.i64.wrap ((i.length:Int)-1))<(i.length:Int))))then(nthK i (Int.toNat (IntKind.i64.wrap ((i.length:Int)-1))) fun c=>bif((decide (0≤(IntKind.i64.wrap ((i.length:Int)-1))))&&(decide ((IntKind.i64.wrap ((i.length:Int)-1))<((List.length (List.set i (Int.toNat (IntKind.i64.wrap ((i.length:Int)-1))) (.int .i64 (IntKind.i64.wrap (a-1)))):Nat):Int))))then(nthK (List.set i (Int.toNat (IntKind.i64.wrap ((i.length:Int)-1))) (.int .i64 (IntKind.i64.wrap (a-1)))) (Int.toNat (IntKind.i64.wrap ((i.length:Int)-1))) fun c=>aI .i64 c fun c=>bif(decide (c>0))then(K [.int .u64 e,.int .u64 f,.int .i64 g,.sl 1 h,.sl 1 (List.set i (Int.toNat (IntKind.i64.wrap ((i.length:Int)-1))) (.int .i64 (IntKind.i64.wrap (a-1)))),.int .i64 (IntKind.i64.wrap (b+1)),.int .i64 m,.sl 1 n,.sl 2 o,.sl 4 p,.int .i64 q,.int .i64 r])else(bif((decide (0≤(IntKind.i64.wrap ((i.length:Int)-1))))&&(decide ((IntKind.i64.wrap ((i.length:Int)-1))≤((List.length (List.set i (Int.toNat (IntKind.i64.wrap ((i.length:Int)-1))) (.int .i64 (IntKind.i64.wrap (a-1)))):Nat):Int))))then(K [.int .u64 e,.int .u64 f,.int .i64 g,.sl 1 h,.sl 1 (List.take (Int.toNat (IntKind.i64.wrap ((i.length:Int)-1))) (List.set i (Int.toNat (IntKind.i64.wrap ((i.length:Int)-1))) (.int .i64 (IntKind.i64.wrap (a-1))))),.int .i64 l,.int .i64 m,.sl 1 n,.sl 2 o,.sl 4 p,.int .i64 q,.int .i64 r])else none))else none)else none)else none))))
abbrev g97 {R:Type} (G:ORC R) (k:Nat):LV→(LV→OV R)→OV R:=gF J93 (f97 G k)
theorem s97{R:Type}{G:ORC R}{k:Nat}(hG:Sound Try.prog TAB G):TL 97 (g97 G k):=
 gG J93 (by kernel_rfl) (callF_sound (L:=fun _ _ _=>none) (f:=97) TAB_chk MO hG Try.func97 (sg:=S97) (by kernel_rfl) (by kernel_rfl) (las [] (by kernel_rfl) trivial))
end Go.Proofs.Ytfkofdjpdbfjgaa.Vm
